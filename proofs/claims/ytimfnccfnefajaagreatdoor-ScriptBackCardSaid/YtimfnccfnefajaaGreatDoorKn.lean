/- What the rows of this seat ask besides, and the row of ScriptTitles. -/
import Derived.Test.YtimfnccfnefajaaGreatDoorKg
import Derived.Test.YtimfnccfnefajaaGreatDoorWa
import Derived.Test.YtimfnccfnefajaaGreatDoorKl
import Derived.Test.YtimfnccfnefajaaGreatDoorKm
import Derived.Test.YtimfnccfnefajaaGreatDoorTie
import Derived.Test.YtimfnccfnefajaaGreatDoorCards
set_option linter.unusedSimpArgs false
set_option linter.unusedVariables false
namespace Go.Proofs.YtimfnccfnefajaaGreatDoor
open Go Go.Ev Go.ChangeShapes Go.WideShapes Go.ChangeAt Go.RowKit
set_option maxRecDepth 100000
theorem hcT : HC := fun s sub m w hs hm => Tryz.stringslite_Index s sub m w hs hm
theorem own : ownKnob Tryz.prog.godebug = none := by kernel_rfl
theorem laidOut : laidOutB Tryz.prog = true := fa2
theorem pars8 : Tryz.f8.params.toList.all (fun t => Tryz.prog.readableRec t && decide (t < Tryz.prog.types.size)) = true := by kernel_rfl
theorem res8 : Tryz.f8.resultTypes = #[4] := by kernel_rfl
theorem par8 : Tryz.f8.params = #[22, 3] := by kernel_rfl
theorem u4 : Tryz.prog.underlying 4 = some .bool := by kernel_rfl
theorem u3 : Tryz.prog.underlying 3 = some (.int .i64) := by kernel_rfl
theorem u22 : Tryz.prog.underlying 22 = some (.slice 3) := by kernel_rfl
theorem below_of {W W' : World} (h : Keeps (fun b => b < W.heap.size) W W') : Below W.heap.size W W' := ⟨h.os, h.tape, h.output, h.size, h.same⟩
/-- An argument that is a slice: nil, or at an address of a cell's own. -/
theorem slice_arg {P : Program} {W : World} {base : Nat} {t e : TypeId} {v : Value} (ht : P.underlying t = some (.slice e)) (h : Value.okWide P W .any base t v) : v = .slice none 0 0 ∨ ∃ a len cap, v = .slice (some a) len cap ∧ a.spot = none := by
  have ok : Cell.ok P W .any base t v := by
    unfold Value.okWide at h
    rw [ht] at h
    unfold Cell.okWide at h
    rw [ht] at h
    cases v <;> exact h
  unfold Cell.ok at ok
  rw [ht] at ok
  cases v with
  | slice a len cap =>
    cases a with
    | none =>
      cases len with
      | zero =>
        cases cap with
        | zero => exact .inl rfl
        | succ n => exact ok.elim
      | succ n => exact ok.elim
    | some a => exact .inr ⟨a, len, cap, rfl, ok.2.2.2.1⟩
  | _ => exact ok.elim
theorem titles_calls {W : World} (hsh : W.ShapedOpen Tryz.prog) (hl : laidMet Tryz.prog laidT W) {v : Value} (hv : v = .slice none 0 0 ∨ ∃ a len cap, v = .slice (some a) len cap ∧ a.spot = none) (how : Int) :
    Calls Tryz.prog 8 #[v, .int .i64 how] W fun e W' => e = .returned (.bool true) ∧ Below W.heap.size W W' := by
  obtain ⟨m, _, hK⟩ := laid_rd hsh hl
  rcases hv with rfl | ⟨⟨b, off, spot⟩, len, cap, rfl, hs⟩
  · have := titles_ok (x := none) (l := 0) (c := 0) (how := how) hcT (memT (b := 0) (off := 0) hK) trivial
    exact this.mono fun e W' he => ⟨he.1, below_of he.2⟩
  · obtain rfl : spot = none := hs
    have := titles_ok (x := some (12, 0)) (l := len) (c := cap) (how := how) hcT (memT (b := b) (off := off) hK) (by show (12 : Nat) < 13; decide)
    exact this.mono fun e W' he => ⟨he.1, below_of he.2⟩
theorem titles_lifted (os : Os) (started : os.Started) (H : Type) (enc : TypeId × Value → H) :
    ReturnsInHanded {} Tryz.checked os 8 .any (fun w args => (Rows.scriptTitlesSpec.pre enc Tryz.prog Tryz.f8 [] false w args ∧ laidMetH Tryz.prog laidT w) ∧ sizedMet enc Tryz.prog Tryz.f8 (OpenSpec.ofChange Rows.scriptTitlesSpec) false w args)
      (Rows.scriptTitlesSpec.post enc Tryz.prog Tryz.f8 false true false false) := by
  refine handed_and (C := Tryz.checked) (X := fun w _ => laidMetH Tryz.prog laidT w) (fun _ _ _ hh h => h.of_heap hh) own started (by kernel_rfl) Tryz.func8
    (ChangeSpec.witness_shaped (enc := enc) (C := Tryz.checked) (os := os) (X := fun w _ => laidMetH Tryz.prog laidT w) false (wWit os) #[.slice none 0 0, .int .i64 0] 8 (wWit_os os) (wShaped os _) (by kernel_rfl) (by kernel_rfl) (by kernel_rfl) (wMet os _)) ?_
  intro W base args ds gs before hval0 hW _ hsh hL
  have hval : ∀ (j : Nat) t v, Tryz.f8.params[j]? = some t → args[j]? = some v → Value.okWide Tryz.prog W .any base t v := hval0
  have hL : laidMet Tryz.prog laidT W := by
    rw [← laidPlain]
    exact hL
  have hW' : DataW.Whole enc Tryz.prog Tryz.f8.params.toList Rows.scriptTitlesSpec.vars false W args.toList ds gs before := hW
  obtain ⟨p, q, hA0, hV, rfl, hfz, hnd⟩ := id hW'
  have hA : DataW.TrodAll enc Tryz.prog W 0 (fun _ => true) true Tryz.f8.params.toList args.toList ds p := hA0
  rw [par8] at hA hval
  obtain ⟨v0, v1, d0, d1, p0, p1, rfl, rfl, rfl, h0, h1⟩ := trodAll_two hA
  obtain ⟨rfl, rfl⟩ := trodVars_none hV
  obtain ⟨how, rfl, rfl, rfl, _⟩ := open_int u3 (hval 1 3 v1 rfl rfl) h1
  have hv : v0 = .slice none 0 0 ∨ ∃ a len cap, v0 = .slice (some a) len cap ∧ a.spot = none := slice_arg u22 (hval 0 22 v0 rfl rfl)
  have hp : ∀ t ∈ Tryz.f8.params.toList, Tryz.prog.readableRec t = true ∧ t < Tryz.prog.types.size := by
    intro t ht
    have := List.all_eq_true.1 pars8 t ht
    rw [Bool.and_eq_true, decide_eq_true_eq] at this
    exact this
  exact (titles_calls hsh hL hv how).mono fun e W' he => ⟨_, he.1, law_post rfl hW' laidOut hp u4 res8 rfl he.2⟩
theorem inst8 : Tryz.f8.isInstance Tryz.prog Rows.scriptTitlesRow.origin Rows.scriptTitlesRow.targs := of_decide_eq_true (by kernel_rfl)
theorem wrap8 : Tryz.f8.isWrapper Tryz.prog Rows.scriptTitlesRow.wrapper Rows.scriptTitlesRow.mainSum := by unfold Func.isWrapper; first | (rw [if_pos (by decide +kernel)]; kernel_rfl) | (rw [if_neg (by decide +kernel)]; exact ⟨rfl, rfl⟩)
theorem scriptTitles_holds : Rows.ScriptTitlesSaid :=
  OpenClaim.holds_of_wide 8 Tryz.f8 rfl rfl rfl rfl rfl rfl rfl ⟨rfl, rfl, rfl, rfl, rfl⟩ rfl rfl rfl rfl rfl named8' Tryz.func8 closed8 inst8 wrap8
    (fun os started H enc _ => titles_lifted os started H enc)
theorem noStand : ([22, 3].all fun u => !Tryz.prog.wantsStandIn u) = true := by kernel_rfl
theorem goesAt_no {P : Program} {nm : String} {f : FuncId} (h : P.funcNamed nm = some f) (hg : P.goes f = false) : false = P.goesAt .entering nm := by
  unfold Program.goesAt Program.goesFrom
  rw [h]
  simp [hg]
theorem goesNo8 : false = Tryz.prog.goesAt Rows.scriptTitlesRow.start Rows.scriptTitlesRow.func := goesAt_no named8' goes8
theorem scriptTitles_card : Rows.ScriptTitlesCardSaid :=
  Claim7.holds_tied_plain_at .later [] [.data, .data, .data, .data, .sentinel, .sentinel, .data, .data, .data, .data, .pinned] true (true, "381a75e930d642b095c3ce381e0b5036fa91836e7d55ac486192ad5d7e8418d2") true
    scriptTitles_holds (fun _ h => by cases h) (by kernel_rfl) (fun _ h => by cases h) scriptTitles_row_tie rfl ⟨rfl, rfl⟩ (by kernel_rfl) rfl
    (fun f fn hf hfn => by
      obtain rfl : f = 8 := Option.some.inj (named8'.symm.trans hf) |>.symm
      obtain rfl : fn = Tryz.f8 := (Option.some.inj (Tryz.func8.symm.trans hfn)).symm
      exact ⟨by kernel_rfl, fun j t ht => by
        rw [par8] at ht
        have hm : t ∈ [22, 3] := by simpa using Array.mem_of_getElem? ht
        exact (show Tryz.prog.wantsStandIn t = false by simpa using List.all_eq_true.1 noStand t hm)⟩)
    goesNo8
end Go.Proofs.YtimfnccfnefajaaGreatDoor
