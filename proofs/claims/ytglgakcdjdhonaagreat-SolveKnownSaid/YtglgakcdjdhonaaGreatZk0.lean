/- The law SolveKnown's own code, and its last statement. -/
import Derived.Test.YtglgakcdjdhonaaGreatZa2
import Derived.Test.YtglgakcdjdhonaaGreatZb1
set_option linter.unusedVariables false
namespace Go.Proofs.YtglgakcdjdhonaaGreat.Abs
noncomputable def bodyK : Code := match Tryz.f3.body with
 | some b => b
 | none => .skip
noncomputable def lastOps : Array Oper := match backC 15 bodyK with
 | .seq (.region _ o _) _ => o
 | _ => #[]
noncomputable def ops1 : List Oper := lastOps.toList.take 4
noncomputable def ops3 : List Oper := lastOps.toList.drop 5
noncomputable def op2 : Oper := match lastOps.toList.drop 4 with
 | o :: _ => o
 | [] => default
end Go.Proofs.YtglgakcdjdhonaaGreat.Abs
