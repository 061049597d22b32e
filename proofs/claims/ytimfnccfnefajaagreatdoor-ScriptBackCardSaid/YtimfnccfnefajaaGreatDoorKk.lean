/- The closed facts that the row of ScriptTitles asks of the program. -/
import Derived.Test.YtimfnccfnefajaaGreatDoorKj
import Derived.Test.YtimfnccfnefajaaGreatDoorKa
import Derived.Test.YtimfnccfnefajaaGreatDoorRows
import Derived.JoinedOf
set_option linter.unusedSimpArgs false
set_option linter.unusedVariables false
namespace Go.Proofs.YtimfnccfnefajaaGreatDoor
open Go Go.Ev
set_option maxRecDepth 100000
theorem bodyless_stops : Tryz.prog.funcs.toList.filterMap Stop.rowOf = [] :=
  List.filterMap_eq_nil_iff.2 fun fn hfn => Option.isNone_iff_eq_none.1 (nStop_all fn hfn)
theorem stops_nil : Tryz.prog.stops = [] := by
  unfold Program.stops
  have h : Tryz.prog.funcs.toList.filterMap (fun fn => (Stop.rowOf fn).map (·.name)) = [] := List.filterMap_eq_nil_iff.2 fun fn hfn => by
    rw [Option.isNone_iff_eq_none.1 (nStop_all fn hfn)]
    rfl
  rw [h]
  rfl
theorem stopKnobs_nil : Tryz.prog.stopKnobs = [] := by
  unfold Program.stopKnobs
  rw [bodyless_stops]
  rfl
theorem stopsHeard_all : Tryz.prog.stopsHeard = true := by
  unfold Program.stopsHeard
  rw [← Array.all_toList, List.all_eq_true]
  intro fn hfn
  have h : (Stop.rowOf fn).isNone = true := nStop_all fn hfn
  rw [h]
  rfl
theorem goes_none : ∀ fn ∈ Tryz.prog.funcs.toList, fn.goes = false := by
  intro fn hfn
  have h : bnot fn.goes = true := nGoes_all fn hfn
  rw [bnot_eq, Bool.not_eq_true'] at h
  exact h
theorem goes8 : Tryz.prog.goes 8 = false := by
  unfold Program.goes
  have h1 : ((Tryz.prog.closure 8).any fun g => (Tryz.prog.funcs[g]?).any Func.goes) = false := by
    rw [List.any_eq_false]
    intro g _
    cases hg : Tryz.prog.funcs[g]? with
    | none => simp
    | some fn =>
      have := goes_none fn (List.mem_of_getElem? (by rw [Array.getElem?_toList]; exact hg))
      simp [this]
  have h2 : Tryz.prog.funcs.any Func.goes = false := by
    rw [← Array.any_toList, List.any_eq_false]
    intro fn hfn
    rw [goes_none fn hfn]
    exact Bool.false_ne_true
  rw [h1, h2, Bool.and_false, Bool.or_false]
noncomputable def inP (g : Nat) : Option String := (Tryz.prog.funcs[g]?).bind fun fn => if fn.ours || fn.body.isNone then some fn.name else Option.none
theorem inP_eq : clos8.filterMap inP = Rows.scriptTitlesRow.inPlace := by kernel_rfl
theorem inPlace8 : Tryz.prog.inPlace 8 = Rows.scriptTitlesRow.inPlace := by
  rw [← inP_eq]
  unfold Program.inPlace
  rw [clos8_eq]
  congr 1
  funext g
  unfold inP
  cases hg : Tryz.prog.funcs[g]? with
  | none => rfl
  | some fn =>
    have hm : fn ∈ Tryz.prog.funcs.toList := List.mem_of_getElem? (by rw [Array.getElem?_toList]; exact hg)
    have := (lall_iff _ _).1 nums fn hm
    rw [bnot_eq, Bool.not_eq_true'] at this
    have this : (fn.name == "runtime.NumGoroutine") = false := this
    simp only [Option.bind_some, this, Bool.or_false]
theorem unf8 : Tryz.prog.unfollowed 8 = true := by
  unfold Program.unfollowed
  rw [clos8_eq]
  kernel_rfl
theorem rec8 : Tryz.prog.recurses 8 = true := by
  unfold Program.recurses
  rw [unf8]
  rfl
theorem gtab_at (g : Nat) : ((Tryz.prog.funcs[g]?).bind (·.body)).elim [] Code.globalsNamed = tabOf gtabs g := by
  unfold tabOf
  rw [Tr.get_ofList, ← gtabs_eq, List.getElem?_map, ← Array.getElem?_toList]
  cases Tryz.prog.funcs.toList[g]? with
  | none => rfl
  | some fn => rfl
theorem named8a : (((clos8.flatMap (tabOf gtabs)).eraseDups.filterMap fun g => (Tryz.prog.globals[g]?).map (·.name)) ++ clos8.filterMap fun g => (Tryz.prog.funcs[g]?).bind fun fn => if fn.body.isNone then entryReads.lookup fn.name else Option.none).eraseDups = Rows.scriptTitlesRow.named := by kernel_rfl
theorem named8 : Tryz.prog.varsNamed 8 = Rows.scriptTitlesRow.named := by
  rw [← named8a]
  unfold Program.varsNamed
  rw [clos8_eq]
  have h : (clos8.flatMap fun g => ((Tryz.prog.funcs[g]?).bind (·.body)).elim [] Code.globalsNamed) = clos8.flatMap (tabOf gtabs) := by
    congr 1
    funext g
    exact gtab_at g
  rw [h]
theorem fa1 : Rows.scriptTitlesRow.wf (OpenSpec.ofChange Rows.scriptTitlesSpec) = true := by kernel_rfl
theorem fa2 : laidOutB Tryz.prog = true := laidOut_all
theorem fa3 : mapsRowed Tryz.prog = true := mapsRowed_all
theorem fa4 : Tryz.f8.params.all (Tryz.prog.readableRec ·) = true := by kernel_rfl
theorem fa5 : namedTie Tryz.prog Rows.scriptTitlesRow.named Rows.scriptTitlesSpec.vars = true := by kernel_rfl
theorem fa6 : (Rows.scriptTitlesRow.stops == []) = true := by kernel_rfl
theorem fa7 : (Tryz.prog.stops == []) = true := by rw [stops_nil]; rfl
theorem fa8 : (Rows.scriptTitlesRow.knobs == []) = true := by kernel_rfl
theorem fa9 : (Tryz.prog.stopKnobs == []) = true := by rw [stopKnobs_nil]; rfl
theorem fa10 : (Rows.scriptTitlesRow.inPlace == Tryz.prog.inPlace 8) = true := by rw [inPlace8]; exact beq_self_eq_true _
theorem fa11 : (Rows.scriptTitlesRow.unfollowed == Tryz.prog.unfollowed 8) = true := by rw [unf8]; rfl
theorem fa12 : (Rows.scriptTitlesRow.recurses == Tryz.prog.recurses 8) = true := by rw [rec8]; rfl
theorem fa13 : (Rows.scriptTitlesRow.named == Tryz.prog.varsNamed 8) = true := by rw [named8]; exact beq_self_eq_true _
theorem fa14 : (Rows.scriptTitlesRow.maps == (Tryz.f8.params.toList ++ Rows.scriptTitlesSpec.plain.varTypes Tryz.prog).any (Tryz.prog.mapsRec ·)) = true := by kernel_rfl
theorem fa15 : (Rows.scriptTitlesRow.ifaces == (Tryz.f8.params.toList ++ Rows.scriptTitlesSpec.plain.varTypes Tryz.prog).any (Tryz.prog.ifacesRec ·)) = true := by kernel_rfl
theorem fa16 : (Rows.scriptTitlesRow.mapsOut == Tryz.prog.mapsAmong Tryz.f8.resultTypes.toList) = true := by kernel_rfl
theorem fa17 : (Rows.scriptTitlesRow.loops == (Tryz.f8.params.toList ++ Rows.scriptTitlesSpec.plain.varTypes Tryz.prog).any (Tryz.prog.loopsFrom ·)) = true := by kernel_rfl
theorem fa18 : (Rows.scriptTitlesRow.wideKeys == (Tryz.f8.params.toList ++ Rows.scriptTitlesSpec.plain.varTypes Tryz.prog ++ Tryz.f8.resultTypes.toList).any (Tryz.prog.wideKeysFrom ·)) = true := by kernel_rfl
theorem fa19 : Rows.scriptTitlesSpec.vars.all (Tryz.prog.varReadable ·) = true := by kernel_rfl
theorem fa20 : Tryz.f8.resultTypes.all (fun t => Tryz.prog.readableRec t && decide (t < Tryz.prog.types.size)) = true := by kernel_rfl
theorem fa21 : (Rows.scriptTitlesRow.ifacesOut == Tryz.f8.resultTypes.toList.any (Tryz.prog.ifacesRec ·)) = true := by kernel_rfl
theorem fa22 : (Rows.scriptTitlesRow.loopsOut == Tryz.f8.resultTypes.toList.any (Tryz.prog.loopsFrom ·)) = true := by kernel_rfl
theorem fa23 : (Rows.scriptTitlesRow.plainKeys == Tryz.prog.plainKeys) = true := by kernel_rfl
theorem fa24 : Rows.scriptTitlesRow.shortTexts.isNone = true := by kernel_rfl
theorem fa25 : Tryz.prog.stopsHeard = true := stopsHeard_all
theorem fa26 : Tryz.prog.mayEnter = true := mayEnter_yes
theorem fa27 : (Rows.scriptTitlesRow.lifted == Tryz.prog.liftsFinal) = true := by kernel_rfl
theorem fa28 : (Tryz.prog.make == some Rows.scriptTitlesRow.make) = true := by kernel_rfl
theorem fa30 : (Rows.scriptTitlesRow.pinned == Rows.scriptTitlesRow.pinnedBy) = true := by kernel_rfl
theorem fa31 : (Rows.scriptTitlesRow.veiled == (Tryz.f8.params.toList ++ Rows.scriptTitlesSpec.plain.varTypes Tryz.prog ++ Tryz.f8.resultTypes.toList).any (Tryz.prog.veiledRec ·)) = true := by kernel_rfl
theorem fa32 : Rows.scriptTitlesRow.veiledFits Tryz.prog Tryz.f8.params.toList (Tryz.f8.params.toList ++ Rows.scriptTitlesSpec.plain.varTypes Tryz.prog ++ Tryz.f8.resultTypes.toList) = true := by kernel_rfl
theorem closed8 : joinedFacts Tryz.prog 8 Tryz.f8 Rows.scriptTitlesSpec Rows.scriptTitlesRow = true := by
  unfold joinedFacts
  rw [fa1, fa2, fa3, fa4, fa5, fa6, fa7, fa8, fa9, fa10, fa11, fa12, fa13, fa14, fa15, fa16, fa17, fa18, fa19, fa20, fa21, fa22, fa23, fa24, fa25, fa26, fa27, fa28, fa30, fa31, fa32]
  rfl
end Go.Proofs.YtimfnccfnefajaaGreatDoor
