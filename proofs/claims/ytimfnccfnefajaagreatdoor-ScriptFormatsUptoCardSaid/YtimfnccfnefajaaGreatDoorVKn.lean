/- A part of the proof: KRow -/
import Derived.Test.YtimfnccfnefajaaGreatDoorVKg
import Derived.Test.YtimfnccfnefajaaGreatDoorVWa
import Derived.Test.YtimfnccfnefajaaGreatDoorVKl
import Derived.Test.YtimfnccfnefajaaGreatDoorVKm
import Derived.Test.YtimfnccfnefajaaGreatDoorTie
import Derived.Test.YtimfnccfnefajaaGreatDoorCards
set_option linter.unusedSimpArgs false
set_option linter.unusedVariables false
namespace Go.Proofs.YtimfnccfnefajaaGreatDoor
open Go Go.Ev Go.ChangeShapes Go.WideShapes Go.ChangeAt Go.RowKit
set_option maxRecDepth 100000
theorem hcT:HC:=fun s sub m w hs hm=>Tryz.stringslite_Index s sub m w hs hm
theorem own:ownKnob Tryz.prog.godebug=none:=by kernel_rfl
theorem laidOut:laidOutB Tryz.prog=true:=fa2
theorem u4:Tryz.prog.underlying 4=some .bool:=by kernel_rfl
theorem u3:Tryz.prog.underlying 3=some (.int .i64):=by kernel_rfl
theorem u22:Tryz.prog.underlying 22=some (.slice 3):=by kernel_rfl
theorem below_of {W W':World} (h:Keeps (fun b=>b<W.heap.size) W W'):Below W.heap.size W W':=⟨h.os,h.tape,h.output,h.size,h.same⟩
theorem slice_arg {P:Program} {W:World} {base:Nat} {t e:TypeId} {v:Value} (ht:P.underlying t=some (.slice e)) (h:Value.okWide P W .any base t v):v=.slice none 0 0∨∃ a len cap,v=.slice (some a) len cap∧a.spot=none:=by
 have ok:Cell.ok P W .any base t v:=by
  unfold Value.okWide at h
  rw [ht] at h
  unfold Cell.okWide at h
  rw [ht] at h
  cases v <;> exact h
 unfold Cell.ok at ok
 rw [ht] at ok
 cases v with
 | slice a len cap =>
  cases a with
  | none =>
   cases len with
   | zero =>
    cases cap with
    | zero=>exact .inl rfl
    | succ n=>exact ok.elim
   | succ n=>exact ok.elim
  | some a=>exact .inr ⟨a,len,cap,rfl,ok.2.2.2.1⟩
 | _=>exact ok.elim
theorem goesAt_no {P:Program} {nm:String} {f:FuncId} (h:P.funcNamed nm=some f) (hg:P.goes f=false):false=P.goesAt .entering nm:=by
 unfold Program.goesAt Program.goesFrom
 rw [h]
 simp [hg]
end Go.Proofs.YtimfnccfnefajaaGreatDoor
