/- Parts of a proof: what its theorem reaches, words cut short. No condition of its own. -/
import Derived.Test.YtingnldfpokckaaGreatPm09
set_option maxRecDepth 100000
set_option maxHeartbeats 16000000
set_option linter.unusedVariables false
set_option linter.unusedSimpArgs false
namespace Go.Proofs.YtingnldfpokckaaGreat
open Go.RowKit Go.Lib
theorem Dg.lt{w:World}{g:Nat}{F:Nat->Prop}{d lo hi n:Int}{L W:List Mn}(h:Dg w g F d L W lo hi n):g<w.heap.size:=by
 obtain⟨lv,wv,hb,_⟩:=h
 exact hb.lt
theorem Dg.mem{w:World}{g:Nat}{F:Nat->Prop}{d lo hi n:Int}{L W:List Mn}(h:Dg w g F d L W lo hi n):F g:=by
 obtain⟨lv,wv,_,_,_,hg,_⟩:=h
 exact hg
theorem Dg.low{w:World}{g:Nat}{F:Nat->Prop}{d lo hi n:Int}{L W:List Mn}(h:Dg w g F d L W lo hi n):∀k,F k->k<w.heap.size:=by
 obtain⟨lv,wv,_,_,_,_,_,_,_,h4⟩:=h
 exact h4
theorem fineness_any{g:Nat}{F:Nat->Prop}{d lo hi n:Int}{L W:List Mn}(w:World)(h:Dg w g F d L W lo hi n) :
 Calls Tryz.prog 28 #[.pointer (some ⟨g,0,none⟩)] w fun e w'=>e=.returned (.int .i64 d)/\w=w':=by
 obtain⟨lv,wv,hb,_⟩:=h
 have c5:=hb.cell 0
 simp only[List.getElem?_toArray,List.getElem?_cons_zero] at c5
 go_enter Tryz.func28,Tryz.ntmps28
 go_wp2_with fail
 refine bodyPost_ret (by simp[results,Tryz.results28,go_sem, *];try rfl) rfl ?_
 exact⟨rfl,rfl⟩
theorem ends_none{g:Nat}{F:Nat->Prop}{d lo hi:Int}{L W:List Mn}(w:World)(h:Dg w g F d L W lo hi 0) :
 Calls Tryz.prog 118 #[.pointer (some ⟨g,0,none⟩)] w fun e w'=>e=.returned (.tuple #[.int .i64 0,.int .i64 0,.int .i64 8])/\Below w.heap.size w w':=by
 obtain⟨lv,wv,hb,_⟩:=h
 have c5:=hb.cell 5
 simp only[List.getElem?_toArray,List.getElem?_cons_succ,List.getElem?_cons_zero] at c5
 clear hb
 go_enter Tryz.func118,Tryz.ntmps118
 go_wp2_with fail
 refine bodyPost_ret (by simp[results,Tryz.results118,go_sem, *];try rfl) rfl ?_
 exact⟨rfl,by(repeat' (first|(with_reducible exact Below.refl _ _)|(with_reducible refine Below.alloc ?_ ?_ _)|(with_reducible refine Below.drew ?_)|(with_reducible refine below_drewN ?_ _)|(with_reducible refine Below.setCell ?_ ?_ _)|(with_reducible refine below_of (by assumption) ?_ ?_)|go_size))⟩
theorem ends_some{g:Nat}{F:Nat->Prop}{d lo hi n:Int}{L W:List Mn}(w:World)(h:Dg w g F d L W lo hi n)(hn:0<n) :
 Calls Tryz.prog 118 #[.pointer (some ⟨g,0,none⟩)] w fun e w'=>e=.returned (.tuple #[.int .i64 lo,.int .i64 hi,.int .i64 0])/\Below w.heap.size w w':=by
 obtain⟨lv,wv,hb,_⟩:=h
 have c5:=hb.cell 5
 have c3:=hb.cell 3
 have c4:=hb.cell 4
 simp only[List.getElem?_toArray,List.getElem?_cons_succ,List.getElem?_cons_zero] at c3 c4 c5
 have h0:(n == 0)=false:=by simp;omega
 clear hb
 go_enter Tryz.func118,Tryz.ntmps118
 go_wp2_with fail
 go_quiet (fail)
 go_wp2_with fail
 refine bodyPost_ret (by simp[results,Tryz.results118,go_sem, *];try rfl) rfl ?_
 exact⟨rfl,by(repeat' (first|(with_reducible exact Below.refl _ _)|(with_reducible refine Below.alloc ?_ ?_ _)|(with_reducible refine Below.drew ?_)|(with_reducible refine below_drewN ?_ _)|(with_reducible refine Below.setCell ?_ ?_ _)|(with_reducible refine below_of (by assumption) ?_ ?_)|go_size))⟩
theorem list_any{g:Nat}{F:Nat->Prop}{d lo hi n:Int}{L W:List Mn}(w:World)(h:Dg w g F d L W lo hi n)(hl:L.length<=1099511627776) :
 Calls Tryz.prog 120 #[.pointer (some ⟨g,0,none⟩)] w fun e w'=>∃v,e=.returned v/\OwnM w.heap.size w' v L/\Below w.heap.size w w':=by
 obtain⟨lv,wv,hb,ho,_⟩:=h
 have c1:=hb.cell 1
 simp only[List.getElem?_toArray,List.getElem?_cons_succ,List.getElem?_cons_zero] at c1
 have HO:=Lib.hid ho
 clear hb ho
 go_enter Tryz.func120,Tryz.ntmps120
 go_wp2_with fail
 refine(clone_M lv L _ HO.out.rd hl).mono ?_
 rintro e w1 ⟨v,rfl,o,hb1⟩
 have O:=Lib.hid o
 clear o
 go_wp2_with fail
 refine bodyPost_ret (by simp[results,Tryz.results120,go_sem, *];try rfl) rfl ?_
 exact⟨_,rfl,O.out,hb1⟩
theorem waits_any{g:Nat}{F:Nat->Prop}{d lo hi n:Int}{L W:List Mn}(w:World)(h:Dg w g F d L W lo hi n)(hl:W.length<=1099511627776) :
 Calls Tryz.prog 122 #[.pointer (some ⟨g,0,none⟩)] w fun e w'=>∃v,e=.returned v/\OwnM w.heap.size w' v W/\Below w.heap.size w w':=by
 obtain⟨lv,wv,hb,_,ho,_⟩:=h
 have c1:=hb.cell 2
 simp only[List.getElem?_toArray,List.getElem?_cons_succ,List.getElem?_cons_zero] at c1
 have HO:=Lib.hid ho
 clear hb ho
 go_enter Tryz.func122,Tryz.ntmps122
 go_wp2_with fail
 refine(clone_M wv W _ HO.out.rd hl).mono ?_
 rintro e w1 ⟨v,rfl,o,hb1⟩
 have O:=Lib.hid o
 clear o
 go_wp2_with fail
 refine bodyPost_ret (by simp[results,Tryz.results122,go_sem, *];try rfl) rfl ?_
 exact⟨_,rfl,O.out,hb1⟩
theorem new_no(d:Int)(w:World)(h:d<10\/1000<d) :
 Calls Tryz.prog 134 #[.int .i64 d] w fun e w'=>e=.returned (.tuple #[.pointer none,.int .i64 1])/\Below w.heap.size w w':=by
 by_cases h1:d<10
 ·go_enter Tryz.func134,Tryz.ntmps134
  go_wp2_with fail
  all_goals
   refine bodyPost_ret (by simp[results,Tryz.results134,go_sem, *];try rfl) rfl ?_
   exact⟨rfl,by(repeat' (first|(with_reducible exact Below.refl _ _)|(with_reducible refine Below.alloc ?_ ?_ _)|(with_reducible refine Below.drew ?_)|(with_reducible refine below_drewN ?_ _)|(with_reducible refine Below.setCell ?_ ?_ _)|(with_reducible refine below_of (by assumption) ?_ ?_)|go_size))⟩
 ·have h2:1000<d:=by omega
  go_enter Tryz.func134,Tryz.ntmps134
  go_wp2_with fail
  all_goals
   refine bodyPost_ret (by simp[results,Tryz.results134,go_sem, *];try rfl) rfl ?_
   exact⟨rfl,by(repeat' (first|(with_reducible exact Below.refl _ _)|(with_reducible refine Below.alloc ?_ ?_ _)|(with_reducible refine Below.drew ?_)|(with_reducible refine below_drewN ?_ _)|(with_reducible refine Below.setCell ?_ ?_ _)|(with_reducible refine below_of (by assumption) ?_ ?_)|go_size))⟩
theorem new_yes(d:Int)(w:World)(h0:10<=d)(h1:d<=1000) :
 Calls Tryz.prog 134 #[.int .i64 d] w fun e w'=>∃g,e=.returned (.tuple #[.pointer (some ⟨g,0,none⟩),.int .i64 0])/\w.heap.size<=g/\Dg w' g (fun k=>k=g) d [] [] 0 0 0/\Below w.heap.size w w':=by
 go_enter Tryz.func134,Tryz.ntmps134
 go_wp2_with fail
 refine bodyPost_ret (by simp[results,Tryz.results134,go_sem, *];try rfl) rfl ?_
 refine⟨_,rfl,?_,⟨.slice none 0 0,.slice none 0 0,?_,OwnM.nil_ _ _,OwnM.nil_ _ _,rfl,(fun k e=>by cases e),(fun k e=>by cases e),(fun k e=>by cases e),(fun k e=>by subst e;simp)⟩,?_⟩
 ·simp
 ·exact Blk.new _ _ _
 ·(repeat' (first|(with_reducible exact Below.refl _ _)|(with_reducible refine Below.alloc ?_ ?_ _)|(with_reducible refine Below.drew ?_)|(with_reducible refine below_drewN ?_ _)|(with_reducible refine Below.setCell ?_ ?_ _)|(with_reducible refine below_of (by assumption) ?_ ?_)|go_size))
open Go.RowKit Go.Lib
open Go.RowKit Go.Lib
open Go.RowKit Go.Lib
def DgS(w:World)(g:Nat)(F:Nat->Prop)(d:Int)(s:St):Prop:=Dg w g F d s.L s.W s.lo s.hi (tot (s.L++s.W))
structure Fit(d:Int)(s:St)(k:Nat):Prop where
 ok:s.Ok d k
 k1:k<=100000000
 t:tot (s.L++s.W)<=281474976710656
 d0:10<=d
 d1:d<=1000
open Go.RowKit Go.Lib
open Go.RowKit Go.Lib
theorem RDg.low{w:World}{g:Nat}{F:Nat->Prop}{d lo hi:Int}{L W:List Mn}(h:RDg w g F d L W lo hi):∀k,F k->k<w.heap.size:=by
 obtain⟨lv,wv,_,_,_,_,_,_,_,h4⟩:=h
 exact h4
open Go.RowKit Go.Lib
def RDgS(w:World)(g:Nat)(F:Nat->Prop)(d:Int)(s:St):Prop:=RDg w g F d s.L s.W s.lo s.hi
open Go.RowKit Go.Lib
end Go.Proofs.YtingnldfpokckaaGreat
