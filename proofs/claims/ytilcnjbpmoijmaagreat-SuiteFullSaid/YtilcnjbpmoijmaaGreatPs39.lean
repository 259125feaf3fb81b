/- Parts of a proof: what its theorem reaches, words cut short. No condition of its own. -/
import Derived.Test.YtilcnjbpmoijmaaGreatPs38
set_option maxRecDepth 100000
set_option maxHeartbeats 16000000
set_option linter.unusedVariables false
set_option linter.unusedSimpArgs false
namespace Go.Proofs.YtilcnjbpmoijmaaGreat.D
open Go.RowKit Go.Lib Go.Maps
def Left(Q:Ft->World->Prop)(H:Ft)(w w':World):Prop:=∃H',Q H' w'/\(∀j,H' j->H j\/w.heap.size<=j)/\Touch H w w'
theorem Left.of_below{Q:Ft->World->Prop}(hQ:Stay Q){H:Ft}{w w':World}(h:Q H w)(hb:Below w.heap.size w w'):Left Q H w w':=⟨H,hQ.keep h hb,fun j e=>.inl e,Touch.of_below hb (Nat.le_refl _)⟩
def AlAt(sb:Nat)(L:K.LL)(H:Ft)(w:World):Prop:=∃x m i xs F G,SuAt sb (0+1) m xs G w/\m 7=some i/\xs[i]?=some (some x)/\KsAt 8 L x F w/\(∀k,F k->¬G k)/\(∀k,G k->H k)/\(∀k,F k->H k)/\∀k,H k->k<w.heap.size
def AlE(sb:Nat)(H:Ft)(w:World):Prop:=∃sz m xs,SuAt sb sz m xs H w/\m 7=none
theorem al_stay(sb:Nat)(L:K.LL):Stay (AlAt sb L) where
 stay:=fun⟨x,m,i,xs,F,G,h1,h2,h3,h4,h5,h6,h7,h8⟩ hk hz=>⟨x,m,i,xs,F,G,(su_stay _ _ _ _).stay h1 (fun k e=>hk k (h6 k e)) hz,h2,h3,h4.stay (fun k e=>hk k (h7 k e)) hz,h5,h6,h7,fun k e=>Nat.lt_of_lt_of_le (h8 k e) hz⟩
 more:=fun⟨x,m,i,xs,F,G,h1,h2,h3,h4,h5,h6,h7,_⟩ hG hl=>⟨x,m,i,xs,F,G,h1,h2,h3,h4,h5,fun k e=>hG k (h6 k e),fun k e=>hG k (h7 k e),hl⟩
 low:=fun⟨_,_,_,_,_,_,_,_,_,_,_,_,_,h⟩=>h
theorem ale_stay(sb:Nat):Stay (AlE sb) where
 stay:=fun⟨sz,m,xs,h1,h2⟩ hk hz=>⟨sz,m,xs,(su_stay _ _ _ _).stay h1 hk hz,h2⟩
 more:=fun⟨sz,m,xs,h1,h2⟩ hG hl=>⟨sz,m,xs,(su_stay _ _ _ _).more h1 hG hl,h2⟩
 low:=fun⟨_,_,_,h1,_⟩=>(su_stay _ _ _ _).low h1
section
variable {sb : Nat} {H : Ft}
theorem al_create(w:World)(h:SuAt sb 0 (fun _=>none) [] H w) :
 Calls Tryz.prog 29 #[.pointer (some ⟨sb,0,none⟩),.agg (actC 1 7 4 8 0 0 0 0)] w fun e w'=>e=.returned (.agg (resC 0 0 false 0))/\Left (AlAt sb []) H w w':=by
 refine(do_create (q:=8) (by decide) (by decide) (by decide) (by decide) w h rfl (by decide) (by decide) 0 0 0 0).mono ?_
 rintro e w' ⟨rfl,i,xs',G',x,F,h1,h2,h3,h4,h5,h6,h7⟩
 refine⟨rfl,fun k=>F k\/G' k,⟨x,_,i,xs',F,G',h1,by simp[upM],h2,h4,fun k e=>(h6 k e).2,fun k e=>.inr e,fun k e=>.inl e,fun k e=>e.elim (h4.low k) (su_low h1 k)⟩,fun j e=>e.elim (fun g=>.inr (h6 j g).1) (h5 j),h7⟩
theorem al_add{n er:Int}{L L':K.LL}(w:World)(h:AlAt sb L H w) (hd:∀m i xs x F G,SuAt sb (0+1) m xs G w->m 7=some i->xs[i]?=some (some x)->KsAt 8 L x F w ->
 Calls Tryz.prog 29 #[.pointer (some ⟨sb,0,none⟩),.agg (actC 2 7 0 0 3 n 0 0)] w fun e w'=>e=.returned (.agg (resC er 0 false 0))/\∃F',KsAt 8 L' x F' w'/\(∀j,F' j->F j\/w.heap.size<=j)/\Touch F w w') :
 Calls Tryz.prog 29 #[.pointer (some ⟨sb,0,none⟩),.agg (actC 2 7 0 0 3 n 0 0)] w fun e w'=>e=.returned (.agg (resC er 0 false 0))/\Left (AlAt sb L') H w w':=by
 obtain⟨x,m,i,xs,F,G,h1,h2,h3,h4,h5,h6,h7,h8⟩:=h
 refine(hd m i xs x F G h1 h2 h3 h4).mono ?_
 rintro e w' ⟨rfl,F',g1,g2,g3⟩
 have hS:=su_far h1 g3 (fun k e f=>h5 k f e)
 have hl:=su_low h1
 refine⟨rfl,fun k=>F' k\/G k,⟨x,m,i,xs,F',G,hS,h2,h3,g1,fun k e g=>?_,fun k e=>.inr e,fun k e=>.inl e,fun k e=>e.elim (g1.low k) (su_low hS k)⟩,fun j e=>e.elim (fun g=>(g2 j g).imp (h7 j) id) (fun g=>.inl (h6 j g)),g3.mono h7⟩
 rcases g2 k e with f|f
 ·exact h5 k f g
 ·have:=hl k g;omega
theorem al_query(w:World)(h:AlAt sb [[3]] H w) :
 Calls Tryz.prog 29 #[.pointer (some ⟨sb,0,none⟩),.agg (actC 4 7 0 0 0 0 1 2)] w fun e w'=>e=.returned (.agg (resC 0 3 false 0))/\Left (AlAt sb [[3]]) H w w':=by
 obtain⟨x,m,i,xs,F,G,h1,h2,h3,h4,_⟩:=id h
 refine(do_query (by decide) (by decide) w h1 h2 h3 (fun w1 hb=>ks_at w1 (h4.keep hb))).mono ?_
 rintro e w' ⟨rfl,hb⟩
 exact⟨rfl,Left.of_below (al_stay _ _) h hb⟩
theorem al_again{L:K.LL}(w:World)(h:AlAt sb L H w) :
 Calls Tryz.prog 29 #[.pointer (some ⟨sb,0,none⟩),.agg (actC 1 7 4 8 0 0 0 0)] w fun e w'=>e=.returned (.agg (resC 2 0 false 0))/\Left (AlAt sb L) H w w':=by
 obtain⟨x,m,i,xs,F,G,h1,h2,h3,h4,_⟩:=id h
 refine(do_again (by decide) (by decide) w h1 h2 h3 _ _ _ _ _ _).mono ?_
 rintro e w' ⟨rfl,hb⟩
 exact⟨rfl,Left.of_below (al_stay _ _) h hb⟩
theorem al_remove{L:K.LL}(w:World)(h:AlAt sb L H w) :
 Calls Tryz.prog 29 #[.pointer (some ⟨sb,0,none⟩),.agg (actC 11 7 0 0 0 0 0 0)] w fun e w'=>e=.returned (.agg (resC 0 0 false 0))/\Left (AlE sb) H w w':=by
 obtain⟨x,m,i,xs,F,G,h1,h2,h3,h4,h5,h6,h7,h8⟩:=h
 refine(do_remove (by decide) (by decide) w h1 h2 h3).mono ?_
 rintro e w' ⟨rfl,g1,g2⟩
 exact⟨rfl,G,⟨_,_,_,g1,by simp[upM]⟩,fun j e=>.inl (h6 j e),g2.mono h6⟩
theorem al_gone(w:World)(h:AlE sb H w) :
 Calls Tryz.prog 29 #[.pointer (some ⟨sb,0,none⟩),.agg (actC 6 7 0 0 0 0 0 0)] w fun e w'=>e=.returned (.agg (resC 2 0 false 0))/\Left (AlE sb) H w w':=by
 obtain⟨sz,m,xs,h1,h2⟩:=id h
 refine(do_gone (by decide) (by decide) (by decide) w h1 h2).mono ?_
 rintro e w' ⟨rfl,hb⟩
 exact⟨rfl,Left.of_below (ale_stay _) h hb⟩
end
open Go.RowKit Go.Lib Go.Maps
abbrev oR(cs:Array Value):Obj:=.cells cs 77
def AS(W:World)(Q:Ft->World->Prop)(rs:List (Nat × Array Value))(H:Ft)(w:World):Prop:=Q H w/\Below W.heap.size W w/\(∀j,H j->W.heap.size<=j)/\∀p,p∈rs->¬H p.1/\Blk w p.1 77 p.2
section
variable {W w w' : World} {Q Q' : Ft -> World -> Prop} {rs : List (Nat × Array Value)} {H : Ft} {cs : Array Value}
theorem AS.left(hQ':Stay Q')(h:AS W Q rs H w)(hl:Left Q' H w w'):∃H',AS W Q' rs H' w'/\∀j,H' j->H j\/w.heap.size<=j:=by
 obtain⟨h1,h2,h3,h4⟩:=h
 obtain⟨H',g1,g2,g3⟩:=hl
 refine⟨H',⟨g1,h2.trans (g3.below h3 h2.size),fun j e=>(g2 j e).elim (h3 j) (fun f=>Nat.le_trans h2.size f),fun p hp=>⟨fun e=>?_,(g3.block _ (h4 p hp).2.lt (h4 p hp).1).trans (h4 p hp).2⟩⟩,g2⟩
 have hl:=(h4 p hp).2.lt
 rcases g2 p.1 e with f|f
 ·exact(h4 p hp).1 f
 ·omega
theorem AS.keep(hQ:Stay Q)(h:AS W Q rs H w)(hb:Below w.heap.size w w'):AS W Q rs H w':=⟨hQ.keep h.1 hb,h.2.1.trans (hb.mono h.2.1.size),h.2.2.1,fun p hp=>⟨(h.2.2.2 p hp).1,(h.2.2.2 p hp).2.keep hb⟩⟩
theorem AS.more(hQ:Stay Q)(h:AS W Q rs H w){b:Nat}(hb:∀j,H j->j≠b)(hB:Blk w b 77 cs):AS W Q ((b,cs)::rs) H w:=⟨h.1,h.2.1,h.2.2.1,fun p hp=>by
 rcases List.mem_cons.1 hp with e|e
 ·subst e;exact⟨fun g=>hb b g rfl,hB⟩
 ·exact h.2.2.2 p e⟩
theorem alloc_set(w:World)(c0 cs:Array Value):Below w.heap.size w ((w.alloc (oR c0)).setRow w.heap.size cs):=below_setRow ((Below.refl _ _).alloc (Nat.le_refl _) _) (Nat.le_refl _) _
theorem AS.behind(hQ:Stay Q)(h:AS W Q rs H w)(c0:Array Value):AS W Q ((w.heap.size,cs)::rs) H ((w.alloc (oR c0)).setRow w.heap.size cs):=
 (h.keep hQ (alloc_set w c0 cs)).more hQ (fun j e g=>by have:=hQ.low h.1 j e;omega) (setRow_heap _ _ _ _ _ _ (heap_alloc_new w (oR c0)))
end
end Go.Proofs.YtilcnjbpmoijmaaGreat.D
