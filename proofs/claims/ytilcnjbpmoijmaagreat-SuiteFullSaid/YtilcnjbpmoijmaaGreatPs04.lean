/- Parts of a proof: what its theorem reaches, words cut short. No condition of its own. -/
import Derived.Test.YtilcnjbpmoijmaaGreatPs02
import Derived.StillTail
set_option maxRecDepth 100000
set_option maxHeartbeats 16000000
set_option linter.unusedVariables false
set_option linter.unusedSimpArgs false
namespace Go.Proofs.YtilcnjbpmoijmaaGreat
open Go.RowKit
section
variable {P : Program} {ops : Array Oper} {md : Region.Mode} {S : World -> Prop}
def GiveV(S:World->Prop)(v u:Value)(w:World):Prop:=u=v/\S w
def EndV(S:World->Prop)(v:Value)(e:Ending)(w:World):Prop:=e=.returned v/\S w
def Gives(P:Program)(S:World->Prop)(v:Value):Result Next->Prop
 | .ok (.value u) w=>GiveV S v u w
 | .ok (.enter f args) w=>Calls P f args w (EndV S v)
 | _=>False
@[go_sem] theorem gives_value {v:Value} (u:Value) (w:World):Gives P S v (.ok (.value u) w)=GiveV S v u w:=rfl
@[go_sem] theorem gives_enter {v:Value} (f:FuncId) (args:Array Value) (w:World):Gives P S v (.ok (.enter f args) w)=Calls P f args w (EndV S v):=rfl
end
end Go.Proofs.YtilcnjbpmoijmaaGreat
