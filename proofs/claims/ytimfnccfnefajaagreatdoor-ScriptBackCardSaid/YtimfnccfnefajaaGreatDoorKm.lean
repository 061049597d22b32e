/- The number of ScriptTitles by its name. -/
import Derived.Test.YtimfnccfnefajaaGreatDoorEvJ
import Derived.Test.YtimfnccfnefajaaGreatDoorKi
import Derived.Test.YtimfnccfnefajaaGreatDoorProg
import Derived.Test.YtimfnccfnefajaaGreatDoorRows
set_option linter.unusedSimpArgs false
set_option linter.unusedVariables false
namespace Go.Proofs.YtimfnccfnefajaaGreatDoor
open Go Go.Ev
set_option maxRecDepth 100000
theorem nm8_a : (Tryz.f8.name == Rows.scriptTitlesRow.func) = true := by kernel_rfl
theorem nm8_b : lall (fun f : Func => bnot (f.name == Rows.scriptTitlesRow.func)) (ltake 8 Tryz.prog.funcs.toList) = true := by kernel_rfl
theorem nm8_c0 : lall (fun f : Func => bnot (f.name == Rows.scriptTitlesRow.func)) (chunk (ldrop (Nat.succ 8) Tryz.prog.funcs.toList) 130 0) = true := by kernel_rfl
theorem nm8_c1 : lall (fun f : Func => bnot (f.name == Rows.scriptTitlesRow.func)) (chunk (ldrop (Nat.succ 8) Tryz.prog.funcs.toList) 130 1) = true := by kernel_rfl
theorem nm8_c2 : lall (fun f : Func => bnot (f.name == Rows.scriptTitlesRow.func)) (chunk (ldrop (Nat.succ 8) Tryz.prog.funcs.toList) 130 2) = true := by kernel_rfl
theorem nm8_c3 : lall (fun f : Func => bnot (f.name == Rows.scriptTitlesRow.func)) (chunk (ldrop (Nat.succ 8) Tryz.prog.funcs.toList) 130 3) = true := by kernel_rfl
theorem nm8_c4 : lall (fun f : Func => bnot (f.name == Rows.scriptTitlesRow.func)) (chunk (ldrop (Nat.succ 8) Tryz.prog.funcs.toList) 130 4) = true := by kernel_rfl
theorem nm8_c5 : lall (fun f : Func => bnot (f.name == Rows.scriptTitlesRow.func)) (chunk (ldrop (Nat.succ 8) Tryz.prog.funcs.toList) 130 5) = true := by kernel_rfl
theorem nm8_c6 : lall (fun f : Func => bnot (f.name == Rows.scriptTitlesRow.func)) (chunk (ldrop (Nat.succ 8) Tryz.prog.funcs.toList) 130 6) = true := by kernel_rfl
theorem nm8_c7 : lall (fun f : Func => bnot (f.name == Rows.scriptTitlesRow.func)) (chunk (ldrop (Nat.succ 8) Tryz.prog.funcs.toList) 130 7) = true := by kernel_rfl
theorem named8' : Tryz.prog.funcNamed Rows.scriptTitlesRow.func = some 8 := by
  refine funcNamed_of (n := 130) (m := 8) (by decide) Tryz.func8 nm8_a nm8_b (fun j hj => ?_) (Nat.le_trans fLe (by decide))
  match j, hj with
  | 0, _ => exact nm8_c0
  | 1, _ => exact nm8_c1
  | 2, _ => exact nm8_c2
  | 3, _ => exact nm8_c3
  | 4, _ => exact nm8_c4
  | 5, _ => exact nm8_c5
  | 6, _ => exact nm8_c6
  | 7, _ => exact nm8_c7
  | n + 8, h => omega
end Go.Proofs.YtimfnccfnefajaaGreatDoor
