/- A part of the proof: KRowW -/
import Derived.Test.YtimfnccfnefajaaGreatDoorVKo
import Derived.Test.YtimfnccfnefajaaGreatDoorVKp
import Derived.Test.YtimfnccfnefajaaGreatDoorVMb
import Derived.ChangeMaps5
set_option linter.unusedSimpArgs false
set_option linter.unusedVariables false
namespace Go.Proofs.YtimfnccfnefajaaGreatDoor
open Go Go.Ev Go.ChangeShapes Go.WideShapes Go.ChangeAt Go.RowKit Go.Proofs
set_option maxRecDepth 100000
theorem pars7:Tryz.f7.params.toList.all (fun t=>Tryz.prog.readableRec t && decide (t<Tryz.prog.types.size))=true:=by kernel_rfl
theorem res7:Tryz.f7.resultTypes=#[4]:=by kernel_rfl
theorem par7:Tryz.f7.params=#[22,3,3]:=by kernel_rfl
theorem wrong_calls {H:Type} {enc:TypeId×Value→H} {W:World} (hsh:W.ShapedOpen Tryz.prog) (hl:laidMet Tryz.prog laidT W) {v:Value} {d:DataW H} {p:List MemPlace} (hv:v=.slice none 0 0∨∃ a len cap,v=.slice (some a) len cap∧a.spot=none) (ht:DataW.Trod enc Tryz.prog W 0 (fun _=>true) true 22 v d p) (s t:Int) :
 Calls Tryz.prog 7 #[v,.int .i64 s,.int .i64 t] W fun e W'=>e=.returned (.bool true)∧Below W.heap.size W W':=by
 obtain ⟨A,m,c,rfl,hm,hn⟩:=nums_of hv ht
 exact (wrong_ok A m c s t W hm hn (gln_of hsh hl) (aw_of hsh hl)).mono fun e W' h=>h
theorem wrong_lifted (os:Os) (started:os.Started) (H:Type) (enc:TypeId×Value→H) :
 ReturnsInHanded {} Tryz.checked os 7 .any (fun w args=>(Rows.scriptWrongSpec.pre enc Tryz.prog Tryz.f7 [] false w args∧laidMetH Tryz.prog laidT w)∧sizedMet enc Tryz.prog Tryz.f7 (OpenSpec.ofChange Rows.scriptWrongSpec) false w args)
  (Rows.scriptWrongSpec.post enc Tryz.prog Tryz.f7 false true false false):=by
 refine handed_and (C:=Tryz.checked) (X:=fun w _=>laidMetH Tryz.prog laidT w) (fun _ _ _ hh h=>h.of_heap hh) own started (by kernel_rfl) Tryz.func7
  (ChangeSpec.witness_shaped (enc:=enc) (C:=Tryz.checked) (os:=os) (X:=fun w _=>laidMetH Tryz.prog laidT w) false (wWit os) #[.slice none 0 0,.int .i64 0,.int .i64 0] 7 (wWit_os os) (wShaped os _) (by kernel_rfl) (by kernel_rfl) (by kernel_rfl) (wMet os _)) ?_
 intro W base args ds gs before hval0 hW _ hsh hL
 have hval:∀ (j:Nat) t v,Tryz.f7.params[j]? = some t→args[j]? = some v→Value.okWide Tryz.prog W .any base t v:=hval0
 have hL:laidMet Tryz.prog laidT W:=by
  rw [← laidPlain]
  exact hL
 have hW':DataW.Whole enc Tryz.prog Tryz.f7.params.toList Rows.scriptWrongSpec.vars false W args.toList ds gs before:=hW
 obtain ⟨p,q,hA0,hV,rfl,hfz,hnd⟩:=id hW'
 have hA:DataW.TrodAll enc Tryz.prog W 0 (fun _=>true) true Tryz.f7.params.toList args.toList ds p:=hA0
 rw [par7] at hA hval
 obtain ⟨v0,v1,v2,d0,d1,d2,p0,p1,p2,rfl,rfl,rfl,h0,h1,h2⟩:=trodAll_three hA
 obtain ⟨rfl,rfl⟩:=trodVars_none hV
 obtain ⟨s,rfl,rfl,rfl,_⟩:=open_int u3 (hval 1 3 v1 rfl rfl) h1
 obtain ⟨t,rfl,rfl,rfl,_⟩:=open_int u3 (hval 2 3 v2 rfl rfl) h2
 have hv:v0=.slice none 0 0∨∃ a len cap,v0=.slice (some a) len cap∧a.spot=none:=slice_arg u22 (hval 0 22 v0 rfl rfl)
 have hp:∀ t∈Tryz.f7.params.toList,Tryz.prog.readableRec t=true∧t<Tryz.prog.types.size:=by
  intro t ht
  have:=List.all_eq_true.1 pars7 t ht
  rw [Bool.and_eq_true,decide_eq_true_eq] at this
  exact this
 exact (wrong_calls hsh hL hv h0 s t).mono fun e W' he=>⟨_,he.1,law_post rfl hW' laidOut hp u4 res7 rfl he.2⟩
theorem inst7:Tryz.f7.isInstance Tryz.prog Rows.scriptWrongRow.origin Rows.scriptWrongRow.targs:=of_decide_eq_true (by kernel_rfl)
theorem wrap7:Tryz.f7.isWrapper Tryz.prog Rows.scriptWrongRow.wrapper Rows.scriptWrongRow.mainSum:=by unfold Func.isWrapper;first | (rw [if_pos (by decide +kernel)];kernel_rfl) | (rw [if_neg (by decide +kernel)];exact ⟨rfl,rfl⟩)
theorem scriptWrong_holds:Rows.ScriptWrongSaid :=
 OpenClaim.holds_of_wide 7 Tryz.f7 rfl rfl rfl rfl rfl rfl rfl ⟨rfl,rfl,rfl,rfl,rfl⟩ rfl rfl rfl rfl rfl named7' Tryz.func7 closed7 inst7 wrap7
  (fun os started H enc _=>wrong_lifted os started H enc)
theorem noStand7:([22,3,3].all fun u=>!Tryz.prog.wantsStandIn u)=true:=by kernel_rfl
theorem goesNo7:false=Tryz.prog.goesAt Rows.scriptWrongRow.start Rows.scriptWrongRow.func:=goesAt_no named7' goes7
theorem scriptWrong_card:Rows.ScriptWrongCardSaid :=
 Claim7.holds_tied_plain_at .later [] [.data,.data,.data,.data,.sentinel,.sentinel,.data,.data,.data,.data,.pinned] true (true,"381a75e930d642b095c3ce381e0b5036fa91836e7d55ac486192ad5d7e8418d2") true
  scriptWrong_holds (fun _ h=>by cases h) (by kernel_rfl) (fun _ h=>by cases h) scriptWrong_row_tie rfl ⟨rfl,rfl⟩ (by kernel_rfl) rfl
  (fun f fn hf hfn=>by
   obtain rfl:f=7:=Option.some.inj (named7'.symm.trans hf) |>.symm
   obtain rfl:fn=Tryz.f7:=(Option.some.inj (Tryz.func7.symm.trans hfn)).symm
   exact ⟨by kernel_rfl,fun j t ht=>by
    rw [par7] at ht
    have hm:t∈[22,3,3]:=by simpa using Array.mem_of_getElem? ht
    exact (show Tryz.prog.wantsStandIn t=false by simpa using List.all_eq_true.1 noStand7 t hm)⟩)
  goesNo7
end Go.Proofs.YtimfnccfnefajaaGreatDoor
