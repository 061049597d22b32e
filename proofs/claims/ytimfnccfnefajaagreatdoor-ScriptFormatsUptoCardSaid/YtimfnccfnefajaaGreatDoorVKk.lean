/- A part of the proof: KFacts -/
import Derived.Test.YtimfnccfnefajaaGreatDoorVKj
import Derived.Test.YtimfnccfnefajaaGreatDoorVKa
import Derived.Test.YtimfnccfnefajaaGreatDoorRows
import Derived.JoinedOf
set_option linter.unusedSimpArgs false
set_option linter.unusedVariables false
namespace Go.Proofs.YtimfnccfnefajaaGreatDoor
open Go Go.Ev
set_option maxRecDepth 100000
theorem bodyless_stops:Tryz.prog.funcs.toList.filterMap Stop.rowOf=[] :=
 List.filterMap_eq_nil_iff.2 fun fn hfn=>Option.isNone_iff_eq_none.1 (nStop_all fn hfn)
theorem stops_nil:Tryz.prog.stops=[]:=by
 unfold Program.stops
 have h:Tryz.prog.funcs.toList.filterMap (fun fn=>(Stop.rowOf fn).map (·.name))=[]:=List.filterMap_eq_nil_iff.2 fun fn hfn=>by
  rw [Option.isNone_iff_eq_none.1 (nStop_all fn hfn)]
  rfl
 rw [h]
 rfl
theorem stopKnobs_nil:Tryz.prog.stopKnobs=[]:=by
 unfold Program.stopKnobs
 rw [bodyless_stops]
 rfl
theorem stopsHeard_all:Tryz.prog.stopsHeard=true:=by
 unfold Program.stopsHeard
 rw [← Array.all_toList,List.all_eq_true]
 intro fn hfn
 have h:(Stop.rowOf fn).isNone=true:=nStop_all fn hfn
 rw [h]
 rfl
theorem goes_none:∀ fn∈Tryz.prog.funcs.toList,fn.goes=false:=by
 intro fn hfn
 have h:bnot fn.goes=true:=nGoes_all fn hfn
 rw [bnot_eq,Bool.not_eq_true'] at h
 exact h
noncomputable def inP (g:Nat):Option String:=(Tryz.prog.funcs[g]?).bind fun fn=>if fn.ours || fn.body.isNone then some fn.name else Option.none
theorem gtab_at (g:Nat):((Tryz.prog.funcs[g]?).bind (·.body)).elim [] Code.globalsNamed=tabOf gtabs g:=by
 unfold tabOf
 rw [Tr.get_ofList,← gtabs_eq,List.getElem?_map,← Array.getElem?_toList]
 cases Tryz.prog.funcs.toList[g]? with
 | none=>rfl
 | some fn=>rfl
theorem fa2:laidOutB Tryz.prog=true:=laidOut_all
end Go.Proofs.YtimfnccfnefajaaGreatDoor
