/- Parts of a proof: what its theorem reaches, words cut short. No condition of its own. -/
import Derived.Test.YtilcnjbpmoijmaaGreatPs40
set_option maxRecDepth 100000
set_option maxHeartbeats 16000000
set_option linter.unusedVariables false
set_option linter.unusedSimpArgs false
namespace Go.Proofs.YtilcnjbpmoijmaaGreat.D
open Go.RowKit Go.Lib Go.Maps
section
variable {sb sz : Nat} {m : Int -> Option Nat} {xs : List (Option Nat)} {G : Ft}
theorem do_full{k:Int}(k0:0<=k)(k1:k<=4294967295)(w:World)(h:SuAt sb sz m xs G w)(hm:m k=none)(hs:64<=sz)(sk q v n num den:Int) :
 Calls Tryz.prog 29 #[.pointer (some ⟨sb,0,none⟩),.agg (actC 1 k sk q v n num den)] w fun e w'=>e=.returned (.agg (resC 2 0 false 0))/\Below w.heap.size w w':=by
 refine(sdo_any (er:=2) (val:=0) (vag:=false) (led:=0) (H:=fun _=>False) (R:=fun wc w'=>Below w.heap.size w w') w (.inl ⟨rfl,rfl⟩) (fun w1 hb=>su_find_no k0 k1 w1 (su_keep h hb) hm) (.inr rfl) (fun _ e=>e.elim) (fun wc hb=>?_) (fun _=>⟨rfl,rfl,rfl⟩) ?_ ?_).mono ?_
 ·refine(create_no k0 k1 wc (su_keep h hb) (by omega) _ _ _ _ _ _ _).mono ?_
  rintro e w' ⟨rfl,hb2⟩
  exact⟨rfl,hb.trans (hb2.mono hb.size),Touch.of_below hb2 (Nat.le_refl _)⟩
 ·intro wc w1 w2 hb h1 hb2
  exact h1.trans (hb2.mono h1.size)
 ·intro wc w1 b cs hb h1 hb0 hb1
  exact below_setRow h1 hb0 _
 ·rintro e w' ⟨rfl,wc,hb,h2⟩
  exact⟨rfl,h2⟩
theorem su_place{k:Int}{i:Nat}{w:World}(h:SuAt sb sz m xs G w)(hm:m k=some i):∃y,xs[i]?=some y:=by
 obtain⟨_,_,_,h,_⟩:=h
 exact⟨_,List.getElem?_eq_getElem (h.pl k i hm)⟩
end
def Fu(n:Nat)(m:Int->Option Nat):Prop:=∀k:Int,(∃i:Nat,i<n/\k=7 * i)<->∃p,m k=some p
theorem Fu.zero:Fu 0 (fun _=>none):=fun k=>⟨fun⟨i,h,_⟩=>absurd h (Nat.not_lt_zero i),fun⟨_,h⟩=>by simp at h⟩
theorem Fu.none{n:Nat}{m:Int->Option Nat}(h:Fu n m){k:Int}(hk:∀i:Nat,i<n->k≠7 * i):m k=none:=by
 cases e:m k with
 | none=>rfl
 | some p=>
  obtain⟨i,h1,h2⟩:=(h k).2 ⟨p,e⟩
  exact absurd h2 (hk i h1)
theorem Fu.step{n p:Nat}{m:Int->Option Nat}(h:Fu n m):Fu (n+1) (upM m (7 * n) (some p)):=fun k=>by
 unfold upM
 by_cases e:k=7 * n
 ·rw[if_pos e]
  exact⟨fun _=>⟨p,rfl⟩,fun _=>⟨n,Nat.lt_succ_self n,e⟩⟩
 ·rw[if_neg e]
  refine⟨fun⟨i,h1,h2⟩=>(h k).1 ⟨i,?_,h2⟩,fun g=>?_⟩
  ·have:i≠n:=fun g=>e (by rw[h2,g])
   omega
  ·obtain⟨i,h1,h2⟩:=(h k).2 g
   exact⟨i,Nat.lt_succ_of_lt h1,h2⟩
def FuAt(sb n:Nat)(G:Ft)(w:World):Prop:=∃m xs,SuAt sb n m xs G w/\Fu n m/\xs.length<=n
theorem fu_stay(sb n:Nat):Stay (FuAt sb n) where
 stay:=fun⟨m,xs,h1,h2⟩ hk hz=>⟨m,xs,(su_stay _ _ _ _).stay h1 hk hz,h2⟩
 more:=fun⟨m,xs,h1,h2⟩ hG hl=>⟨m,xs,(su_stay _ _ _ _).more h1 hG hl,h2⟩
 low:=fun⟨_,_,h1,_⟩=>(su_stay _ _ _ _).low h1
theorem fu_create{sb n q:Nat}{H:Ft}(hn:n<64)(h8:8<=q)(hq:q<=4096)(w:World)(h:FuAt sb n H w) :
 Calls Tryz.prog 29 #[.pointer (some ⟨sb,0,none⟩),.agg (actC 1 (7 * n) 4 q 0 0 0 0)] w fun e w'=>e=.returned (.agg (resC 0 0 false 0))/\Left (FuAt sb (n+1)) H w w':=by
 obtain⟨m,xs,h1,h2,h3⟩:=h
 refine(do_create h8 hq (by omega) (by omega) w h1 (h2.none (fun i hi=>by omega)) hn (by omega) 0 0 0 0).mono ?_
 rintro e w' ⟨rfl,i,xs',G',x,F,g1,g2,g3,g4,g5,g6,g7⟩
 exact⟨rfl,G',⟨_,xs',g1,h2.step,by omega⟩,g5,g7⟩
theorem fu_full{sb n q:Nat}{H:Ft}(hn:64<=n)(hn1:n<=255)(w:World)(h:FuAt sb 64 H w) :
 Calls Tryz.prog 29 #[.pointer (some ⟨sb,0,none⟩),.agg (actC 1 (7 * n) 4 q 0 0 0 0)] w fun e w'=>e=.returned (.agg (resC 2 0 false 0))/\Left (FuAt sb 64) H w w':=by
 obtain⟨m,xs,h1,h2,h3⟩:=id h
 refine(do_full (by omega) (by omega) w h1 (h2.none (fun i hi=>by omega)) (Nat.le_refl _) _ _ _ _ _ _).mono ?_
 rintro e w' ⟨rfl,hb⟩
 exact⟨rfl,Left.of_below (fu_stay _ _) h hb⟩
open Go.RowKit Go.Lib Go.Maps
def FrAt(sb n:Nat)(k:Int)(G:Ft)(w:World):Prop:=∃m xs,SuAt sb n m xs G w/\m k=none/\xs.length<=900
def NuAt(sb n:Nat)(G:Ft)(w:World):Prop:=∃m xs,SuAt sb n m xs G w
theorem fr_stay(sb n:Nat)(k:Int):Stay (FrAt sb n k) where
 stay:=fun⟨m,xs,h1,h2⟩ hk hz=>⟨m,xs,(su_stay _ _ _ _).stay h1 hk hz,h2⟩
 more:=fun⟨m,xs,h1,h2⟩ hG hl=>⟨m,xs,(su_stay _ _ _ _).more h1 hG hl,h2⟩
 low:=fun⟨_,_,h1,_⟩=>(su_stay _ _ _ _).low h1
theorem nu_stay(sb n:Nat):Stay (NuAt sb n) where
 stay:=fun⟨m,xs,h1⟩ hk hz=>⟨m,xs,(su_stay _ _ _ _).stay h1 hk hz⟩
 more:=fun⟨m,xs,h1⟩ hG hl=>⟨m,xs,(su_stay _ _ _ _).more h1 hG hl⟩
 low:=fun⟨_,_,h1⟩=>(su_stay _ _ _ _).low h1
theorem fu_drop{sb c d:Nat}{H:Ft}(hd:d<c+1)(hc:c+1<=64)(w:World)(h:FuAt sb (c+1) H w) :
 Calls Tryz.prog 29 #[.pointer (some ⟨sb,0,none⟩),.agg (actC 11 (7 * d) 0 0 0 0 0 0)] w fun e w'=>e=.returned (.agg (resC 0 0 false 0))/\Left (FrAt sb c (7 * d+1)) H w w':=by
 obtain⟨m,xs,h1,h2,h3⟩:=h
 obtain⟨p,hp⟩:=(h2 (7 * d)).1 ⟨d,hd,rfl⟩
 obtain⟨y,hy⟩:=su_place h1 hp
 have hf:m (7 * d+1)=none:=h2.none (fun i hi=>by omega)
 refine(do_remove (by omega) (by omega) w h1 hp hy).mono ?_
 rintro e w' ⟨rfl,g1,g2⟩
 refine⟨rfl,H,⟨_,_,g1,?_,by rw[List.length_set];omega⟩,fun j e=>.inl e,g2⟩
 unfold upM
 rw[if_neg (by omega)]
 exact hf
theorem fu_gone{sb n d:Nat}{H:Ft}(hd:n<=d)(hd1:d<64)(w:World)(h:FuAt sb n H w) :
 Calls Tryz.prog 29 #[.pointer (some ⟨sb,0,none⟩),.agg (actC 11 (7 * d) 0 0 0 0 0 0)] w fun e w'=>e=.returned (.agg (resC 2 0 false 0))/\Left (FuAt sb n) H w w':=by
 obtain⟨m,xs,h1,h2,h3⟩:=id h
 refine(do_gone (by decide) (by omega) (by omega) w h1 (h2.none (fun i hi=>by omega))).mono ?_
 rintro e w' ⟨rfl,hb⟩
 exact⟨rfl,Left.of_below (fu_stay _ _) h hb⟩
theorem fr_create{sb n q:Nat}{k:Int}{H:Ft}(hn:n<64)(h8:8<=q)(hq:q<=4096)(k0:0<=k)(k1:k<=4294967295)(w:World)(h:FrAt sb n k H w) :
 Calls Tryz.prog 29 #[.pointer (some ⟨sb,0,none⟩),.agg (actC 1 k 4 q 0 0 0 0)] w fun e w'=>e=.returned (.agg (resC 0 0 false 0))/\Left (NuAt sb (n+1)) H w w':=by
 obtain⟨m,xs,h1,h2,h3⟩:=h
 refine(do_create h8 hq k0 k1 w h1 h2 hn h3 0 0 0 0).mono ?_
 rintro e w' ⟨rfl,i,xs',G',x,F,g1,g2,g3,g4,g5,g6,g7⟩
 exact⟨rfl,G',⟨_,xs',g1⟩,g5,g7⟩
end Go.Proofs.YtilcnjbpmoijmaaGreat.D
