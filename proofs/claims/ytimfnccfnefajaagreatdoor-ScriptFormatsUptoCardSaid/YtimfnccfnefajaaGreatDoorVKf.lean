/- A part of the proof: KTitC -/
import Derived.Test.YtimfnccfnefajaaGreatDoorVKe
set_option linter.unusedSimpArgs false
set_option linter.unusedVariables false
namespace Go.Ev
open Go.Proofs
section
variable {P:Program} {E:Env} {ρ ρ':Ren} {D D':Dom} {K:Mem} {Pr:Nat→Prop} {s s':St} {w w':World} {fr fr':Fr} {a a':Act} {Q:Exit→Act→World→Prop} {rec:Rec}
end
noncomputable section
set_option maxRecDepth 100000
variable {ρ ρ':Ren} {D D':Dom} {K:Mem} {Pr:Nat→Prop} {s s':St} {w w':World} {fr:Fr}
def HC:Prop:=∀ (s sub:ByteArray) (m:Int) (w:World),s.size<4294967281→w.cell? ⟨2,0,none⟩=some (.int .i64 m)→Calls Tryz.prog 165 #[.string s,.string sub] w fun e w'=>e=.returned (.int .i64 (Lib.index s.data.toList sub.data.toList))∧w'=w
end
end Go.Ev
