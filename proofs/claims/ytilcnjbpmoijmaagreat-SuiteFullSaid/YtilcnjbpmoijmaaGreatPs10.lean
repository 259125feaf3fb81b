/- Parts of a proof: what its theorem reaches, words cut short. No condition of its own. -/
import Derived.Test.YtilcnjbpmoijmaaGreatPs09
import Derived.Laws.EntriesVeiled
import Derived.Laws.Tables
set_option maxRecDepth 100000
set_option maxHeartbeats 16000000
set_option linter.unusedVariables false
set_option linter.unusedSimpArgs false
namespace Go.Proofs.YtilcnjbpmoijmaaGreat.D
open Go.RowKit Go.Lib
def resV(er val:Int)(vag:Bool)(led:Int):Value:=.agg #[.int .i64 er,.int .i64 val,.bool vag,.int .u64 led,.int .u64 0,.int .u64 0,.int .u64 0,.slice none 0 0]
theorem fail_any(er:Int)(w:World):Calls Tryz.prog 64 #[.int .i64 er] w fun e w'=>e=.returned (resV er 0 false 0)/\Below w.heap.size w w':=by
 unfold resV
 go_enter Tryz.func64,Tryz.ntmps64
 go_wp2_with fail
 refine bodyPost_ret (by simp[results,Tryz.results64,go_sem, *];try rfl) rfl ?_
 exact⟨rfl,by(repeat' (first|(with_reducible exact Below.refl _ _)|(with_reducible refine Below.alloc ?_ ?_ _)|(with_reducible refine Below.drew ?_)|(with_reducible refine below_drewN ?_ _)|(with_reducible refine Below.setCell ?_ ?_ _)|(with_reducible refine below_of (by assumption) ?_ ?_)|go_size))⟩
abbrev fnV(f:Nat):Value:=.func (.func f) #[] #[]
def actsA:Array Value:=#[Value.nilFunc,.func (.func 108) #[] #[],.func (.func 109) #[] #[],.func (.func 110) #[] #[],.func (.func 111) #[] #[],.func (.func 112) #[] #[],.func (.func 113) #[] #[],.func (.func 114) #[] #[],.func (.func 115) #[] #[],.func (.func 116) #[] #[],.func (.func 117) #[] #[],.func (.func 118) #[] #[]]
def aloneA:Array Value:=#[.bool false,.bool true,.bool false,.bool false,.bool false,.bool false,.bool false,.bool false,.bool true,.bool true,.bool false,.bool false]
theorem acts_any(w:World):Calls Tryz.prog 65 #[] w fun e w'=>e=.returned (.tuple #[.agg actsA,.agg aloneA])/\Below w.heap.size w w':=by
 unfold actsA aloneA
 go_enter Tryz.func65,Tryz.ntmps65
 go_wp2_with fail
 refine bodyPost_ret (by simp[results,Tryz.results65,go_sem, *];try rfl) rfl ?_
 exact⟨rfl,by(repeat' (first|(with_reducible exact Below.refl _ _)|(with_reducible refine Below.alloc ?_ ?_ _)|(with_reducible refine Below.drew ?_)|(with_reducible refine below_drewN ?_ _)|(with_reducible refine Below.setCell ?_ ?_ _)|(with_reducible refine below_of (by assumption) ?_ ?_)|go_size))⟩
end Go.Proofs.YtilcnjbpmoijmaaGreat.D
