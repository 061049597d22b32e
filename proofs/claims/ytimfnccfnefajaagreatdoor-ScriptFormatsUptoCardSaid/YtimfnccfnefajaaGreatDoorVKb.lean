/- A part of the proof: KTy -/
import Derived.Test.YtimfnccfnefajaaGreatDoorChecked
import Derived.KernelRfl
import Derived.Test.YtimfnccfnefajaaGreatDoorVEvI
set_option linter.unusedSimpArgs false
set_option linter.unusedVariables false
namespace Go.Ev
open Go.Proofs
set_option maxRecDepth 100000
theorem kty:tysFit Tryz.prog [13,14,18,19,1075,1076,1085,1086]=true:=by kernel_rfl
end Go.Ev
