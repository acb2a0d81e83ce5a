/- What is given of the Shell laws' own function of known answers. -/
import Derived.Test.YtccahbfbbaaicaaGreatDoorGiv
set_option linter.unusedVariables false
namespace Go.Proofs.YtccahbfbbaaicaaGreatDoor.Giv
def anticlinelaw18_known.f : Option Bool := some true
end Go.Proofs.YtccahbfbbaaicaaGreatDoor.Giv
