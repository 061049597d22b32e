/- The statement ScriptBackCardSaid is proved: for every input ScriptBack returns true and its arguments read as before; the condition is the row's own: the listed package-level variables hold what the card ties to the program's text. -/
import Derived.Test.YtimfnccfnefajaaGreatDoorKo
import Derived.Test.YtimfnccfnefajaaGreatDoorKp
import Derived.Test.YtimfnccfnefajaaGreatDoorWo
import Derived.ChangeMaps5
set_option linter.unusedSimpArgs false
set_option linter.unusedVariables false
namespace Go.Proofs.YtimfnccfnefajaaGreatDoor
open Go Go.Ev Go.ChangeShapes Go.WideShapes Go.ChangeAt Go.RowKit Go.Proofs
set_option maxRecDepth 100000
theorem pars5 : Tryz.f5.params.toList.all (fun t => Tryz.prog.readableRec t && decide (t < Tryz.prog.types.size)) = true := by kernel_rfl
theorem res5 : Tryz.f5.resultTypes = #[4] := by kernel_rfl
theorem par5 : Tryz.f5.params = #[22, 9, 9] := by kernel_rfl
theorem u9 : Tryz.prog.underlying 9 = some .string := by kernel_rfl
theorem back_calls {H : Type} {enc : TypeId × Value → H} {W : World} (hsh : W.ShapedOpen Tryz.prog) (hl : laidMet Tryz.prog laidT W) {v : Value} {d : DataW H} {p : List MemPlace} (hv : v = .slice none 0 0 ∨ ∃ a len cap, v = .slice (some a) len cap ∧ a.spot = none) (ht : DataW.Trod enc Tryz.prog W 0 (fun _ => true) true 22 v d p) (s t : ByteArray) :
    Calls Tryz.prog 5 #[v, .string s, .string t] W fun e W' => e = .returned (.bool true) ∧ Below W.heap.size W W' := by
  obtain ⟨A, m, c, rfl, hm, hn⟩ := nums_of hv ht
  exact (back_ok A m c s t W hm hn (gln_of hsh hl) (aw_of hsh hl)).mono fun e W' h => h
theorem back_lifted (os : Os) (started : os.Started) (H : Type) (enc : TypeId × Value → H) :
    ReturnsInHanded {} Tryz.checked os 5 .any (fun w args => (Rows.scriptBackSpec.pre enc Tryz.prog Tryz.f5 [] false w args ∧ laidMetH Tryz.prog laidT w) ∧ sizedMet enc Tryz.prog Tryz.f5 (OpenSpec.ofChange Rows.scriptBackSpec) false w args)
      (Rows.scriptBackSpec.post enc Tryz.prog Tryz.f5 false true false false) := by
  refine handed_and (C := Tryz.checked) (X := fun w _ => laidMetH Tryz.prog laidT w) (fun _ _ _ hh h => h.of_heap hh) own started (by kernel_rfl) Tryz.func5
    (ChangeSpec.witness_shaped (enc := enc) (C := Tryz.checked) (os := os) (X := fun w _ => laidMetH Tryz.prog laidT w) false (wWit os) #[.slice none 0 0, .string ⟨#[]⟩, .string ⟨#[]⟩] 5 (wWit_os os) (wShaped os _) (by kernel_rfl) (by kernel_rfl) (by kernel_rfl) (wMet os _)) ?_
  intro W base args ds gs before hval0 hW _ hsh hL
  have hval : ∀ (j : Nat) t v, Tryz.f5.params[j]? = some t → args[j]? = some v → Value.okWide Tryz.prog W .any base t v := hval0
  have hL : laidMet Tryz.prog laidT W := by
    rw [← laidPlain]
    exact hL
  have hW' : DataW.Whole enc Tryz.prog Tryz.f5.params.toList Rows.scriptBackSpec.vars false W args.toList ds gs before := hW
  obtain ⟨p, q, hA0, hV, rfl, hfz, hnd⟩ := id hW'
  have hA : DataW.TrodAll enc Tryz.prog W 0 (fun _ => true) true Tryz.f5.params.toList args.toList ds p := hA0
  rw [par5] at hA hval
  obtain ⟨v0, v1, v2, d0, d1, d2, p0, p1, p2, rfl, rfl, rfl, h0, h1, h2⟩ := trodAll_three hA
  obtain ⟨rfl, rfl⟩ := trodVars_none hV
  obtain ⟨s, rfl, _⟩ := ChangeMaps.open_string u9 (hval 1 9 v1 rfl rfl) h1
  obtain ⟨t, rfl, _⟩ := ChangeMaps.open_string u9 (hval 2 9 v2 rfl rfl) h2
  have hv : v0 = .slice none 0 0 ∨ ∃ a len cap, v0 = .slice (some a) len cap ∧ a.spot = none := slice_arg u22 (hval 0 22 v0 rfl rfl)
  have hp : ∀ t ∈ Tryz.f5.params.toList, Tryz.prog.readableRec t = true ∧ t < Tryz.prog.types.size := by
    intro t ht
    have := List.all_eq_true.1 pars5 t ht
    rw [Bool.and_eq_true, decide_eq_true_eq] at this
    exact this
  exact (back_calls hsh hL hv h0 s t).mono fun e W' he => ⟨_, he.1, law_post rfl hW' laidOut hp u4 res5 rfl he.2⟩
theorem inst5 : Tryz.f5.isInstance Tryz.prog Rows.scriptBackRow.origin Rows.scriptBackRow.targs := of_decide_eq_true (by kernel_rfl)
theorem wrap5 : Tryz.f5.isWrapper Tryz.prog Rows.scriptBackRow.wrapper Rows.scriptBackRow.mainSum := by unfold Func.isWrapper; first | (rw [if_pos (by decide +kernel)]; kernel_rfl) | (rw [if_neg (by decide +kernel)]; exact ⟨rfl, rfl⟩)
theorem scriptBack_holds : Rows.ScriptBackSaid :=
  OpenClaim.holds_of_wide 5 Tryz.f5 rfl rfl rfl rfl rfl rfl rfl ⟨rfl, rfl, rfl, rfl, rfl⟩ rfl rfl rfl rfl rfl named5' Tryz.func5 closed5 inst5 wrap5
    (fun os started H enc _ => back_lifted os started H enc)
theorem noStand5 : ([22, 9, 9].all fun u => !Tryz.prog.wantsStandIn u) = true := by kernel_rfl
theorem goesNo5 : false = Tryz.prog.goesAt Rows.scriptBackRow.start Rows.scriptBackRow.func := goesAt_no named5' goes5
theorem scriptBack_card : Rows.ScriptBackCardSaid :=
  Claim7.holds_tied_plain_at .later [] [.data, .data, .data, .data, .sentinel, .sentinel, .data, .data, .data, .data, .pinned] true (true, "381a75e930d642b095c3ce381e0b5036fa91836e7d55ac486192ad5d7e8418d2") true
    scriptBack_holds (fun _ h => by cases h) (by kernel_rfl) (fun _ h => by cases h) scriptBack_row_tie rfl ⟨rfl, rfl⟩ (by kernel_rfl) rfl
    (fun f fn hf hfn => by
      obtain rfl : f = 5 := Option.some.inj (named5'.symm.trans hf) |>.symm
      obtain rfl : fn = Tryz.f5 := (Option.some.inj (Tryz.func5.symm.trans hfn)).symm
      exact ⟨by kernel_rfl, fun j t ht => by
        rw [par5] at ht
        have hm : t ∈ [22, 9, 9] := by simpa using Array.mem_of_getElem? ht
        exact (show Tryz.prog.wantsStandIn t = false by simpa using List.all_eq_true.1 noStand5 t hm)⟩)
    goesNo5
end Go.Proofs.YtimfnccfnefajaaGreatDoor
