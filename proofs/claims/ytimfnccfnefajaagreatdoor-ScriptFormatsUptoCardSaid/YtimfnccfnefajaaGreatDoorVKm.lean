/- A part of the proof: KN8 -/
import Derived.Test.YtimfnccfnefajaaGreatDoorVEvJ
import Derived.Test.YtimfnccfnefajaaGreatDoorVKi
import Derived.Test.YtimfnccfnefajaaGreatDoorProg
import Derived.Test.YtimfnccfnefajaaGreatDoorRows
set_option linter.unusedSimpArgs false
set_option linter.unusedVariables false
namespace Go.Proofs.YtimfnccfnefajaaGreatDoor
open Go Go.Ev
set_option maxRecDepth 100000
end Go.Proofs.YtimfnccfnefajaaGreatDoor
