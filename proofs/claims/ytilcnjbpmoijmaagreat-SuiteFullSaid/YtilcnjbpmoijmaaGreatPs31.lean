/- Parts of a proof: what its theorem reaches, words cut short. No condition of its own. -/
import Derived.Test.YtilcnjbpmoijmaaGreatPs15
import Derived.Test.YtilcnjbpmoijmaaGreatPs17
import Derived.Test.YtilcnjbpmoijmaaGreatPs30
set_option maxRecDepth 100000
set_option maxHeartbeats 16000000
set_option linter.unusedVariables false
set_option linter.unusedSimpArgs false
namespace Go.Proofs.YtilcnjbpmoijmaaGreat.D
open Go.RowKit Go.Lib Go.Shelf
theorem KAt_low{G:Ft}{w:World}{p q led:Nat}{L:K.LL}(h:K.KAt G w p q L led):∀k,G k->k<w.heap.size:=by
 obtain⟨_,_,h⟩:=h
 exact h.low
def KsAt(q:Nat)(L:K.LL)(x:Nat)(F:Ft)(w:World):Prop:=∃p G,Blk w x 126 #[.int .u8 4,.pointer none,.pointer none,.pointer none,.pointer (some ⟨p,0,none⟩)]/\K.KAt G w p q L 0/\F x/\¬G x/\(∀k,G k->F k)/\∀k,F k->k<w.heap.size
theorem KsAt.stay{q x:Nat}{L:K.LL}{F:Ft}{w w':World}(h:KsAt q L x F w)(hk:∀k,F k->w'.heap[k]?=w.heap[k]?)(hz:w.heap.size<=w'.heap.size):KsAt q L x F w':=by
 obtain⟨p,G,h1,h2,h3,h4,h5,h6⟩:=h
 exact⟨p,G,(hk x h3).trans h1,h2.stay (fun k e=>hk k (h5 k e)) hz,h3,h4,h5,fun k h=>Nat.lt_of_lt_of_le (h6 k h) hz⟩
theorem KsAt.low{q x:Nat}{L:K.LL}{F:Ft}{w:World}(h:KsAt q L x F w):∀k,F k->k<w.heap.size:=by
 obtain⟨_,_,_,_,_,_,_,h6⟩:=h
 exact h6
theorem KsAt.keep{q x:Nat}{L:K.LL}{F:Ft}{w w':World}(h:KsAt q L x F w)(hb:Below w.heap.size w w'):KsAt q L x F w':=h.stay (fun k hk=>hb.block k (h.low k hk)) hb.size
theorem KsAt.far{q x:Nat}{L:K.LL}{F G:Ft}{w w':World}(h:KsAt q L x F w)(ht:Touch G w w')(hd:∀k,F k->¬G k):KsAt q L x F w':=h.stay (fun k hk=>ht.block k (h.low k hk) (hd k hk)) ht.size
theorem ks_placed{q:Nat}{y:Nat}{w0 w1 w':World}{e:Ending}(h:Placed y 4 #[.int .u8 4,.pointer none,.pointer none,.pointer none,.pointer none] (fun p w'=>∃x G,p=.pointer (some ⟨x,0,none⟩)/\K.KAt G w' x q [] 0/\∀k,G k->w1.heap.size<=k) w1 e w')(hyl:y<w1.heap.size)(hy0:w0.heap.size<=y) :
 e=.returned (.int .i64 0)/\(∃F,KsAt q [] y F w'/\∀k,F k->w0.heap.size<=k)/\Touch (fun j=>j=y) w1 w':=by
 obtain⟨rfl,p,wz,⟨x,G,rfl,hI,hG⟩,hb,hB,ht,ht2⟩:=h
 have I:=hI.stay (fun k hk=>ht.block k ((KAt_low hI) k hk) (fun e=>by have:=hG k hk;rw[show k=y from e] at this;omega)) ht.size
 refine⟨rfl,⟨fun k=>k=y\/G k,⟨x,G,hB,I,.inl rfl,fun hg=>by have:=hG y hg;omega,fun k hk=>.inr hk,fun k hk=>hk.elim (fun e=>by rw[e];exact hB.lt) ((KAt_low I) k)⟩,fun k hk=>hk.elim (fun e=>by rw[e];exact hy0) (fun h=>by have:=hG k h;omega)⟩,ht2⟩
theorem ks_spec{q y:Nat}{L:K.LL}{F:Ft}(w:World)(h:KsAt q L y F w):Calls Tryz.prog 53 #[.pointer (some ⟨y,0,none⟩)] w fun e w'=>e=.returned (specV 4 0 0 0 false 0 q)/\Below w.heap.size w w':=by
 obtain⟨p,G,hB,⟨lv,vs,hI⟩,_⟩:=h
 refine jspec4_any hB (fun w1 hb=>?_)
 exact K.size_any w1 (hI.keep hb)
theorem ks_make{q:Nat}(h8:8<=q)(hq:q<=4096)(w:World):Calls Tryz.prog 34 #[specV 4 0 0 0 false 0 q] w fun e w'=>∃x,e=.returned (.tuple #[.pointer (some ⟨x,0,none⟩),.int .i64 0])/\(∃F,KsAt q [] x F w'/\∀k,F k->w.heap.size<=k)/\Below w.heap.size w w':=by
 refine jmake_any (.inr (.inr (.inr ⟨rfl,rfl⟩))) w (fun y w1 hb hy hB=>?_) (fun y w1 ⟨F,h,_⟩=>ks_spec w1 h) (fun y w1 w' ⟨F,h,h2⟩ hb=>⟨F,h.keep hb,h2⟩)
 refine(makeKll_any hB (Q:=fun p w'=>∃x G,p=.pointer (some ⟨x,0,none⟩)/\K.KAt G w' x q [] 0/\∀k,G k->w1.heap.size<=k) (fun wa hwa=>?_)).mono (fun e w' h=>ks_placed h hB.lt hy)
 refine(K.new_any q wa h8 hq).mono ?_
 rintro e w' ⟨rfl,rfl⟩
 exact⟨_,rfl,⟨_,_,rfl,K.kAt_new q wa,fun k hk=>by rw[show k=wa.heap.size from hk];exact hwa.size⟩,by(repeat' (first|(with_reducible exact Below.refl _ _)|(with_reducible refine Below.alloc ?_ ?_ _)|(with_reducible refine Below.drew ?_)|(with_reducible refine below_drewN ?_ _)|(with_reducible refine Below.setCell ?_ ?_ _)|(with_reducible refine below_of (by assumption) ?_ ?_)|go_size))⟩
theorem ok0:K.PkOk (([]:K.LL),0,0):=by
 constructor<;>first|(simp[K.cnt,K.wt,K.lvl,K.wtF,K.Srt];done)|decide|(intro h;simp at h)
theorem add31:K.addL [] 3 1=[[3]]:=by decide +kernel
theorem ks_add{x:Nat}{F:Ft}{cq:Option Addr}(w:World)(h:KsAt 8 [] x F w) :
 Calls Tryz.prog 68 #[.pointer (some ⟨x,0,none⟩),.int .i64 3,.int .u64 1,.pointer cq] w fun e w'=>e=.returned (.int .i64 0)/\∃F',KsAt 8 [[3]] x F' w'/\(∀k,F' k->F k\/w.heap.size<=k)/\Touch F w w':=by
 obtain⟨p,G,hB,hI,hFx,hGx,hGF,hF⟩:=h
 have low:=KAt_low hI
 obtain⟨lv,vs,hs⟩:=hI
 refine(jadd4_any (Q:=fun v' w'=>v'=.int .i64 0/\∃F',KsAt 8 [[3]] x F' w'/\(∀k,F' k->F k\/w.heap.size<=k)/\Touch F w w') hB ?_).mono ?_
 ·refine(K.add_idle (a:=0) (c:=1) 3 w hs ok0 rfl (by decide) (by decide +kernel) (by decide +kernel) (by decide) (by decide) (by rw[add31];decide +kernel)).mono ?_
  rintro e w' ⟨rfl,F',lv',vs',q1,q2,q3,q4⟩
  rw[add31,show K.wt ([]:K.LL)+1=K.wt [[3]] from by decide +kernel] at q1
  have hxz:x<w.heap.size:=hB.lt
  refine⟨_,rfl,rfl,fun k=>k=x\/F' k,⟨p,F',(q4.block x hxz hGx).trans hB,⟨lv',vs',q1⟩,.inl rfl,fun e=>?_,fun k e=>.inr e,fun k e=>?_⟩,fun k e=>?_,q4.mono hGF⟩
  ·rcases q2 x e with e|e
   ·exact hGx e
   ·omega
  ·rcases e with rfl|e
   ·exact Nat.lt_of_lt_of_le hxz q4.size
   ·exact KAt_low ⟨lv',vs',q1⟩ k e
  ·rcases e with rfl|e
   ·exact .inl hFx
   ·exact(q2 k e).imp (hGF k) id
 ·rintro e w' ⟨v',rfl,rfl,h1⟩
  exact⟨rfl,h1⟩
theorem ok3:K.PkOk (([[3]]:K.LL),0,0):=by
 have h:=K.pkOk_add ok0 3 1 (by decide +kernel) (by decide +kernel)
 rwa [add31] at h
theorem at3:K.atR [[3]] 0 1 2=(3,0,0):=by decide +kernel
theorem ks_at{x:Nat}{F:Ft}(w:World)(h:KsAt 8 [[3]] x F w) :
 Calls Tryz.prog 180 #[.pointer (some ⟨x,0,none⟩),.int .u64 1,.int .u64 2] w fun e w'=>e=.returned (.tuple #[.agg #[.int .i64 3,.bool false,.int .u64 0],.int .i64 0])/\Below w.heap.size w w':=by
 obtain⟨p,G,hB,⟨lv,vs,hI⟩,_⟩:=h
 refine jAt_any w hB (fun w1 hb=>?_)
 refine(K.at_any (a:=0) 1 2 w1 (hI.keep hb) ok3 rfl (by decide) (by decide) (by decide) (by decide)).mono ?_
 rintro e w' ⟨rfl,hb2⟩
 rw[at3]
 exact⟨rfl,hb2⟩
end Go.Proofs.YtilcnjbpmoijmaaGreat.D
