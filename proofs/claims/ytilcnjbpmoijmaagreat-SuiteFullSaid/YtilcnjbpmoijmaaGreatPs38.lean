/- Parts of a proof: what its theorem reaches, words cut short. No condition of its own. -/
import Derived.Test.YtilcnjbpmoijmaaGreatPs37
set_option maxRecDepth 100000
set_option maxHeartbeats 16000000
set_option linter.unusedVariables false
set_option linter.unusedSimpArgs false
namespace Go.Proofs.YtilcnjbpmoijmaaGreat.D
open Go.RowKit Go.Lib Go.Maps
section
variable {sb sz : Nat} {m : Int -> Option Nat} {xs : List (Option Nat)} {G : Ft}
theorem su_keep{w w1:World}(h:SuAt sb sz m xs G w)(hb:Below w.heap.size w w1):SuAt sb sz m xs G w1:=(su_stay sb sz m xs).keep h hb
theorem su_low{w:World}(h:SuAt sb sz m xs G w):∀k,G k->k<w.heap.size:=(su_stay sb sz m xs).low h
theorem touch_under{F:Ft}{w w1:World}{b:Nat}{cs:Array Value}(h:Touch F w w1)(hb:w.heap.size<=b):Touch F w (w1.setRow b cs):=touch_row h (.inr hb)
theorem do_create{k:Int}{q:Nat}(h8:8<=q)(hq:q<=4096)(k0:0<=k)(k1:k<=4294967295)(w:World)(h:SuAt sb sz m xs G w)(hm:m k=none)(hs:sz<64)(hx:xs.length<=900)(v n num den:Int) :
 Calls Tryz.prog 29 #[.pointer (some ⟨sb,0,none⟩),.agg (actC 1 k 4 q v n num den)] w fun e w'=>e=.returned (.agg (resC 0 0 false 0))/\CrR sb sz m xs G k q w w.heap.size w':=by
 refine(sdo_any (er:=0) (val:=0) (vag:=false) (led:=0) (H:=G) (R:=fun wc w'=>CrR sb sz m xs G k q w wc.heap.size w') w (.inl ⟨rfl,rfl⟩) (fun w1 hb=>su_find_no k0 k1 w1 (su_keep h hb) hm) (.inr rfl) (su_low h) (fun wc hb=>?_) (fun e=>absurd rfl e) ?_ ?_).mono ?_
 ·refine(create_yes h8 hq k0 k1 wc (su_keep h hb) hm hs hx _ _ _ _ _).mono ?_
  rintro e w' ⟨rfl,i,xs',G',x,F,h1,h2,h3,h4,h5,h6,h7⟩
  exact⟨rfl,⟨i,xs',G',x,F,h1,h2,h3,h4,h5,h6,btl hb h7⟩,h7⟩
 ·rintro wc w1 w2 hb ⟨i,xs',G',x,F,h1,h2,h3,h4,h5,h6,h7⟩ hb2
  exact⟨i,xs',G',x,F,su_keep h1 hb2,h2,h3,h4.keep hb2,h5,h6,tbl h7 hb2⟩
 ·rintro wc w1 b cs hb ⟨i,xs',G',x,F,h1,h2,h3,h4,h5,h6,h7⟩ hb0 hb1
  have hl:=su_low h
  exact⟨i,xs',G',x,F,su_row h1 (fun e=>by rcases h5 b e with g|g;have:=hl b g;omega;omega),h2,h3,ks_row h4 (fun e=>by have:=(h6 b e).1;omega),h5,h6,touch_under h7 hb0⟩
 ·rintro e w' ⟨rfl,wc,hb,i,xs',G',x,F,h1,h2,h3,h4,h5,h6,h7⟩
  have hz:=hb.size
  exact⟨rfl,i,xs',G',x,F,h1,h2,h3,h4,fun j e=>(h5 j e).imp id (fun g=>by omega),fun j e=>⟨by have:=(h6 j e).1;omega,(h6 j e).2⟩,h7⟩
theorem do_again{k:Int}{i:Nat}{y:Option Nat}(k0:0<=k)(k1:k<=4294967295)(w:World)(h:SuAt sb sz m xs G w)(hm:m k=some i)(hy:xs[i]?=some y)(sk q v n num den:Int) :
 Calls Tryz.prog 29 #[.pointer (some ⟨sb,0,none⟩),.agg (actC 1 k sk q v n num den)] w fun e w'=>e=.returned (.agg (resC 2 0 false 0))/\Below w.heap.size w w':=by
 refine(sdo_any (er:=2) (val:=0) (vag:=false) (led:=0) (H:=fun _=>False) (R:=fun wc w'=>Below w.heap.size w w') w (.inl ⟨rfl,rfl⟩) (fun w1 hb=>su_find_yes k0 k1 w1 (su_keep h hb) hm hy) (.inl rfl) (fun _ e=>e.elim) (fun wc hb=>?_) (fun _=>⟨rfl,rfl,rfl⟩) ?_ ?_).mono ?_
 ·refine(create_no k0 k1 wc (su_keep h hb) (by rw[hm];simp) _ _ _ _ _ _ _).mono ?_
  rintro e w' ⟨rfl,hb2⟩
  exact⟨rfl,hb.trans (hb2.mono hb.size),Touch.of_below hb2 (Nat.le_refl _)⟩
 ·intro wc w1 w2 hb h1 hb2
  exact h1.trans (hb2.mono h1.size)
 ·intro wc w1 b cs hb h1 hb0 hb1
  exact below_setRow h1 hb0 _
 ·rintro e w' ⟨rfl,wc,hb,h2⟩
  exact⟨rfl,h2⟩
theorem do_gone{kd k sk q v n num den:Int}(hkm:kd=2\/kd=4\/kd=6\/kd=11)(k0:0<=k)(k1:k<=4294967295)(w:World)(h:SuAt sb sz m xs G w)(hm:m k=none) :
 Calls Tryz.prog 29 #[.pointer (some ⟨sb,0,none⟩),.agg (actC kd k sk q v n num den)] w fun e w'=>e=.returned (.agg (resC 2 0 false 0))/\Below w.heap.size w w':=
 sdo_none w hkm (fun w1 hb=>su_find_no k0 k1 w1 (su_keep h hb) hm)
theorem do_query{k:Int}{i x:Nat}{v led num den:Int}(k0:0<=k)(k1:k<=4294967295)(w:World)(h:SuAt sb sz m xs G w)(hm:m k=some i)(hy:xs[i]?=some (some x))(hq:∀w1,Below w.heap.size w w1->Calls Tryz.prog 180 #[.pointer (some ⟨x,0,none⟩),.int .u64 num,.int .u64 den] w1 fun e w'=>e=.returned (.tuple #[.agg #[.int .i64 v,.bool false,.int .u64 led],.int .i64 0])/\Below w1.heap.size w1 w') :
 Calls Tryz.prog 29 #[.pointer (some ⟨sb,0,none⟩),.agg (actC 4 k 0 0 0 0 num den)] w fun e w'=>e=.returned (.agg (resC 0 v false led))/\Below w.heap.size w w':=by
 refine(sdo_any (er:=0) (val:=v) (vag:=false) (led:=led) (H:=fun _=>False) (R:=fun wc w'=>Below w.heap.size w w') w (.inr (.inr (.inl ⟨rfl,rfl⟩))) (fun w1 hb=>su_find_yes k0 k1 w1 (su_keep h hb) hm hy) (.inl rfl) (fun _ e=>e.elim) (fun wc hb=>?_) (fun e=>absurd rfl e) ?_ ?_).mono ?_
 ·refine(query_any wc (fun w1 hb1=>hq w1 (hb.trans (hb1.mono hb.size)))).mono ?_
  rintro e w' ⟨rfl,hb2⟩
  exact⟨rfl,hb.trans (hb2.mono hb.size),Touch.of_below hb2 (Nat.le_refl _)⟩
 ·intro wc w1 w2 hb h1 hb2
  exact h1.trans (hb2.mono h1.size)
 ·intro wc w1 b cs hb h1 hb0 hb1
  exact below_setRow h1 hb0 _
 ·rintro e w' ⟨rfl,wc,hb,h2⟩
  exact⟨rfl,h2⟩
theorem do_remove{k:Int}{i:Nat}{y:Option Nat}(k0:0<=k)(k1:k<=4294967295)(w:World)(h:SuAt sb (sz+1) m xs G w)(hm:m k=some i)(hy:xs[i]?=some y) :
 Calls Tryz.prog 29 #[.pointer (some ⟨sb,0,none⟩),.agg (actC 11 k 0 0 0 0 0 0)] w fun e w'=>e=.returned (.agg (resC 0 0 false 0))/\SuAt sb sz (upM m k none) (xs.set i none) G w'/\Touch G w w':=by
 refine(sdo_any (er:=0) (val:=0) (vag:=false) (led:=0) (H:=G) (R:=fun _ w'=>SuAt sb sz (upM m k none) (xs.set i none) G w'/\Touch G w w') w (.inr (.inr (.inr ⟨rfl,rfl⟩))) (fun w1 hb=>su_find_yes k0 k1 w1 (su_keep h hb) hm hy) (.inl rfl) (su_low h) (fun wc hb=>?_) (fun e=>absurd rfl e) ?_ ?_).mono ?_
 ·refine(remove_any k0 k1 wc (su_keep h hb) hm _).mono ?_
  rintro e w' ⟨rfl,h1,h2⟩
  exact⟨rfl,⟨h1,btl hb h2⟩,h2⟩
 ·rintro wc w1 w2 hb ⟨h1,h2⟩ hb2
  exact⟨su_keep h1 hb2,tbl h2 hb2⟩
 ·rintro wc w1 b cs hb ⟨h1,h2⟩ hb0 hb1
  exact⟨su_row h1 (fun e=>by have:=su_low h b e;omega),touch_under h2 hb0⟩
 ·rintro e w' ⟨rfl,wc,hb,h1,h2⟩
  exact⟨rfl,h1,h2⟩
theorem do_insert{k v n er:Int}{i x:Nat}{F:Ft}{P:Ft->World->Prop}(hP:∀F' w1 w2,P F' w1->(∀j,F' j->w2.heap[j]?=w1.heap[j]?)->w1.heap.size<=w2.heap.size->P F' w2)(hPl:∀F' w1,P F' w1->∀j,F' j->j<w1.heap.size)(k0:0<=k)(k1:k<=4294967295)(w:World)(h:SuAt sb sz m xs G w)(hm:m k=some i)(hy:xs[i]?=some (some x))(hF:∀j,F j->j<w.heap.size)
 (hA:∀wc cq,Below w.heap.size w wc->Calls Tryz.prog 68 #[.pointer (some ⟨x,0,none⟩),.int .i64 v,.int .u64 n,.pointer cq] wc fun e w'=>e=.returned (.int .i64 er)/\∃F',P F' w'/\(∀j,F' j->F j\/wc.heap.size<=j)/\Touch F wc w') :
 Calls Tryz.prog 29 #[.pointer (some ⟨sb,0,none⟩),.agg (actC 2 k 0 0 v n 0 0)] w fun e w'=>e=.returned (.agg (resC er 0 false 0))/\∃F',P F' w'/\(∀j,F' j->F j\/w.heap.size<=j)/\Touch F w w':=by
 refine(sdo_any (er:=er) (val:=0) (vag:=false) (led:=0) (H:=F) (R:=fun wc w'=>∃F',P F' w'/\(∀j,F' j->F j\/wc.heap.size<=j)/\Touch F w w') w (.inr (.inl ⟨rfl,rfl⟩)) (fun w1 hb=>su_find_yes k0 k1 w1 (su_keep h hb) hm hy) (.inl rfl) hF (fun wc hb=>?_) (fun _=>⟨rfl,rfl,rfl⟩) ?_ ?_).mono ?_
 ·refine(suin_any (er:=er) (P:=fun wa w'=>∃F',P F' w'/\∀j,F' j->F j\/wa.heap.size<=j) wc (fun j e=>Nat.lt_of_lt_of_le (hF j e) hb.size) (fun wa cq hb2=>?_)).mono ?_
  ·refine(hA wa cq (hb.trans (hb2.mono hb.size))).mono ?_
   rintro e w' ⟨rfl,F',h1,h2,h3⟩
   exact⟨rfl,⟨F',h1,h2⟩,h3⟩
  ·rintro e w' ⟨rfl,wa,w1,hb2,⟨F',h1,h2⟩,h3,h4,h5⟩
   have hz:=hb.size
   have hz2:=hb2.size
   exact⟨rfl,⟨F',hP F' w1 w' h1 (fun j e=>h4.1 j (hPl F' w1 h1 j e) ((h2 j e).imp (fun g=>by have:=hF j g;omega) id)) h4.2,fun j e=>(h2 j e).imp id (fun g=>by omega),btl hb h5⟩,h5⟩
 ·rintro wc w1 w2 hb ⟨F',h1,h2,h3⟩ hb2
  exact⟨F',hP F' w1 w2 h1 (fun j e=>hb2.block j (hPl F' w1 h1 j e)) hb2.size,h2,tbl h3 hb2⟩
 ·rintro wc w1 b cs hb ⟨F',h1,h2,h3⟩ hb0 hb1
  exact⟨F',hP F' w1 _ h1 (fun j e=>setRow_other _ _ _ _ (fun g=>by subst g;rcases h2 j e with g|g;have:=hF j g;omega;omega)) (by rw[setRow_size];exact Nat.le_refl _),h2,touch_under h3 hb0⟩
 ·rintro e w' ⟨rfl,wc,hb,F',h1,h2,h3⟩
  have hz:=hb.size
  exact⟨rfl,F',h1,fun j e=>(h2 j e).imp id (fun g=>by omega),h3⟩
theorem do_add3{k:Int}{i x:Nat}{F:Ft}(k0:0<=k)(k1:k<=4294967295)(w:World)(h:SuAt sb sz m xs G w)(hm:m k=some i)(hy:xs[i]?=some (some x))(hK:KsAt 8 [] x F w) :
 Calls Tryz.prog 29 #[.pointer (some ⟨sb,0,none⟩),.agg (actC 2 k 0 0 3 1 0 0)] w fun e w'=>e=.returned (.agg (resC 0 0 false 0))/\∃F',KsAt 8 [[3]] x F' w'/\(∀j,F' j->F j\/w.heap.size<=j)/\Touch F w w':=
 do_insert (P:=fun F' w'=>KsAt 8 [[3]] x F' w') (fun F' w1 w2 h1 h2 h3=>h1.stay h2 h3) (fun F' w1 h1=>h1.low) k0 k1 w h hm hy hK.low (fun wc cq hb=>ks_add wc (hK.keep hb))
end
open Go.RowKit Go.Lib Go.Maps
theorem ks_add0{q x:Nat}{L:K.LL}{F:Ft}{cq:Option Addr}(w:World)(h:KsAt q L x F w) :
 Calls Tryz.prog 68 #[.pointer (some ⟨x,0,none⟩),.int .i64 3,.int .u64 0,.pointer cq] w fun e w'=>e=.returned (.int .i64 4)/\∃F',KsAt q L x F' w'/\(∀k,F' k->F k\/w.heap.size<=k)/\Touch F w w':=by
 obtain⟨p,G,hB,hR⟩:=id h
 refine(jadd4_any (Q:=fun v' w'=>v'=.int .i64 4/\w=w') hB ?_).mono ?_
 ·refine(K.add_zero p 3 _ w).mono ?_
  rintro e w' ⟨rfl,rfl⟩
  exact⟨_,rfl,rfl,rfl⟩
 ·rintro e w' ⟨v',rfl,rfl,rfl⟩
  exact⟨rfl,F,h,fun k e=>.inl e,Touch.of_below (Below.refl _ _) (Nat.le_refl _)⟩
section
variable {sb sz : Nat} {m : Int -> Option Nat} {xs : List (Option Nat)} {G : Ft}
theorem do_add0{q:Nat}{L:K.LL}{k:Int}{i x:Nat}{F:Ft}(k0:0<=k)(k1:k<=4294967295)(w:World)(h:SuAt sb sz m xs G w)(hm:m k=some i)(hy:xs[i]?=some (some x))(hK:KsAt q L x F w) :
 Calls Tryz.prog 29 #[.pointer (some ⟨sb,0,none⟩),.agg (actC 2 k 0 0 3 0 0 0)] w fun e w'=>e=.returned (.agg (resC 4 0 false 0))/\∃F',KsAt q L x F' w'/\(∀j,F' j->F j\/w.heap.size<=j)/\Touch F w w':=
 do_insert (P:=fun F' w'=>KsAt q L x F' w') (fun F' w1 w2 h1 h2 h3=>h1.stay h2 h3) (fun F' w1 h1=>h1.low) k0 k1 w h hm hy hK.low (fun wc cq hb=>ks_add0 wc (hK.keep hb))
theorem su_far{F:Ft}{w w1:World}(h:SuAt sb sz m xs G w)(ht:Touch F w w1)(hd:∀k,G k->¬F k):SuAt sb sz m xs G w1:=(su_stay sb sz m xs).stay h (fun k hk=>ht.block k (su_low h k hk) (hd k hk)) ht.size
end
end Go.Proofs.YtilcnjbpmoijmaaGreat.D
