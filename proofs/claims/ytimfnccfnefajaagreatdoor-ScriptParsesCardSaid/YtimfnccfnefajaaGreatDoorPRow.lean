/- A part of the proof: KRowP -/
import Derived.Test.YtimfnccfnefajaaGreatDoorVKo
import Derived.Test.YtimfnccfnefajaaGreatDoorPKp
import Derived.Test.YtimfnccfnefajaaGreatDoorVKk
import Derived.Test.YtimfnccfnefajaaGreatDoorVKj
import Derived.Test.YtimfnccfnefajaaGreatDoorVKi
import Derived.Test.YtimfnccfnefajaaGreatDoorVEvJ
import Derived.Test.YtimfnccfnefajaaGreatDoorVEvI
import Derived.Test.YtimfnccfnefajaaGreatDoorVEvH
import Derived.Test.YtimfnccfnefajaaGreatDoorVEvG
import Derived.Test.YtimfnccfnefajaaGreatDoorVEvF
import Derived.Test.YtimfnccfnefajaaGreatDoorVEvE
import Derived.Test.YtimfnccfnefajaaGreatDoorVEvD
import Derived.Test.YtimfnccfnefajaaGreatDoorVEvC
import Derived.Test.YtimfnccfnefajaaGreatDoorVEvB
import Derived.Test.YtimfnccfnefajaaGreatDoorVEvA
import Derived.Test.YtimfnccfnefajaaGreatDoorVKa
import Derived.Test.YtimfnccfnefajaaGreatDoorPA
import Derived.Test.YtimfnccfnefajaaGreatDoorVMb
import Derived.Test.YtimfnccfnefajaaGreatDoorVMa
import Derived.Test.YtimfnccfnefajaaGreatDoorVRh
import Derived.Test.YtimfnccfnefajaaGreatDoorVRg
import Derived.Test.YtimfnccfnefajaaGreatDoorVRf
import Derived.Test.YtimfnccfnefajaaGreatDoorVRe
import Derived.Test.YtimfnccfnefajaaGreatDoorVRd
import Derived.Test.YtimfnccfnefajaaGreatDoorVRa
import Derived.Test.YtimfnccfnefajaaGreatDoorVWk
import Derived.Test.YtimfnccfnefajaaGreatDoorVWj
import Derived.Test.YtimfnccfnefajaaGreatDoorVWi
import Derived.Test.YtimfnccfnefajaaGreatDoorVWh
import Derived.Test.YtimfnccfnefajaaGreatDoorVWg
import Derived.Test.YtimfnccfnefajaaGreatDoorVWf
import Derived.Test.YtimfnccfnefajaaGreatDoorVWe
import Derived.Test.YtimfnccfnefajaaGreatDoorVWd
import Derived.Test.YtimfnccfnefajaaGreatDoorVWc
import Derived.Test.YtimfnccfnefajaaGreatDoorVWa
import Derived.Test.YtimfnccfnefajaaGreatDoorVWb
import Derived.Test.YtimfnccfnefajaaGreatDoorVRc
import Derived.Test.YtimfnccfnefajaaGreatDoorVRb
import Derived.Test.YtimfnccfnefajaaGreatDoorVWl
import Derived.Test.YtimfnccfnefajaaGreatDoorVWn
import Derived.Test.YtimfnccfnefajaaGreatDoorVWm
import Derived.ChangeMaps5
set_option linter.unusedSimpArgs false
set_option linter.unusedVariables false
namespace Go.Proofs.YtimfnccfnefajaaGreatDoor
open Go Go.Ev Go.ChangeShapes Go.WideShapes Go.ChangeAt Go.RowKit Go.Proofs
set_option maxRecDepth 100000
theorem pars3:Tryz.f3.params.toList.all (fun t=>Tryz.prog.readableRec t && decide (t<Tryz.prog.types.size))=true:=by kernel_rfl
theorem res3:Tryz.f3.resultTypes=#[4]:=by kernel_rfl
theorem par3:Tryz.f3.params=#[9,22,3,3,3,3]:=by kernel_rfl
theorem u9:Tryz.prog.underlying 9=some .string:=by kernel_rfl
theorem trodAll_6 {H:Type} {enc:TypeId×Value→H} {P:Program} {w:World} {base:Nat} {spare:Nat→Bool} {held:Bool} {t1 t2 t3 t4 t5 t6:TypeId} {args:Array Value} {ds:List (DataW H)} {ps:List MemPlace} (h:DataW.TrodAll enc P w base spare held [t1,t2,t3,t4,t5,t6] args.toList ds ps) :
 ∃ v1 v2 v3 v4 v5 v6 d1 d2 d3 d4 d5 d6 p1 p2 p3 p4 p5 p6,args=#[v1,v2,v3,v4,v5,v6]∧ds=[d1,d2,d3,d4,d5,d6]∧ps=p1 ++ p2 ++ p3 ++ p4 ++ p5 ++ p6∧DataW.Trod enc P w base spare held t1 v1 d1 p1∧DataW.Trod enc P w base spare held t2 v2 d2 p2∧DataW.Trod enc P w base spare held t3 v3 d3 p3∧DataW.Trod enc P w base spare held t4 v4 d4 p4∧DataW.Trod enc P w base spare held t5 v5 d5 p5∧DataW.Trod enc P w base spare held t6 v6 d6 p6:=by
 obtain ⟨v1,vs,d1,ds1,p1,q1,hargs,rfl,rfl,h1,h⟩:=trodAll_cons h
 obtain ⟨v2,vs,d2,ds2,p2,q2,rfl,rfl,rfl,h2,h⟩:=trodAll_cons h
 obtain ⟨v3,vs,d3,ds3,p3,q3,rfl,rfl,rfl,h3,h⟩:=trodAll_cons h
 obtain ⟨v4,vs,d4,ds4,p4,q4,rfl,rfl,rfl,h4,h⟩:=trodAll_cons h
 obtain ⟨v5,vs,d5,ds5,p5,q5,rfl,rfl,rfl,h5,h⟩:=trodAll_cons h
 obtain ⟨v6,vs,d6,ds6,p6,q6,rfl,rfl,rfl,h6,h⟩:=trodAll_cons h
 obtain ⟨rfl,rfl,rfl⟩:=trodAll_nil h
 exact ⟨v1,v2,v3,v4,v5,v6,d1,d2,d3,d4,d5,d6,p1,p2,p3,p4,p5,p6,by cases args;simp_all,rfl,by simp,h1,h2,h3,h4,h5,h6⟩
theorem parses_calls {H:Type} {enc:TypeId×Value→H} {W:World} (hsh:W.ShapedOpen Tryz.prog) (hl:laidMet Tryz.prog laidT W) (s:ByteArray) {v:Value} {d:DataW H} {p:List MemPlace} (hv:v=.slice none 0 0∨∃ a len cap,v=.slice (some a) len cap∧a.spot=none) (ht:DataW.Trod enc Tryz.prog W 0 (fun _=>true) true 22 v d p) (n k i j:Int) :
 Calls Tryz.prog 3 #[.string s,v,.int .i64 n,.int .i64 k,.int .i64 i,.int .i64 j] W fun e W'=>e=.returned (.bool true)∧Below W.heap.size W W':=by
 obtain ⟨A,m,c,rfl,hm,hn⟩:=nums_of hv ht
 exact (scripts_parse s A m c n k i j W hm hn (gln_of hsh hl) (aw_of hsh hl)).mono fun e W' h=>h
theorem parses_lifted (os:Os) (started:os.Started) (H:Type) (enc:TypeId×Value→H) :
 ReturnsInHanded {} Tryz.checked os 3 .any (fun w args=>(Rows.scriptParsesSpec.pre enc Tryz.prog Tryz.f3 [] false w args∧laidMetH Tryz.prog laidT w)∧sizedMet enc Tryz.prog Tryz.f3 (OpenSpec.ofChange Rows.scriptParsesSpec) false w args)
  (Rows.scriptParsesSpec.post enc Tryz.prog Tryz.f3 false true false false):=by
 refine handed_and (C:=Tryz.checked) (X:=fun w _=>laidMetH Tryz.prog laidT w) (fun _ _ _ hh h=>h.of_heap hh) own started (by kernel_rfl) Tryz.func3
  (ChangeSpec.witness_shaped (enc:=enc) (C:=Tryz.checked) (os:=os) (X:=fun w _=>laidMetH Tryz.prog laidT w) false (wWit os) #[.string ⟨#[]⟩,.slice none 0 0,.int .i64 0,.int .i64 0,.int .i64 0,.int .i64 0] 3 (wWit_os os) (wShaped os _) (by kernel_rfl) (by kernel_rfl) (by kernel_rfl) (wMet os _)) ?_
 intro W base args ds gs before hval0 hW _ hsh hL
 have hval:∀ (j:Nat) t v,Tryz.f3.params[j]? = some t→args[j]? = some v→Value.okWide Tryz.prog W .any base t v:=hval0
 have hL:laidMet Tryz.prog laidT W:=by
  rw [← laidPlain]
  exact hL
 have hW':DataW.Whole enc Tryz.prog Tryz.f3.params.toList Rows.scriptParsesSpec.vars false W args.toList ds gs before:=hW
 obtain ⟨p,q,hA0,hV,rfl,hfz,hnd⟩:=id hW'
 have hA:DataW.TrodAll enc Tryz.prog W 0 (fun _=>true) true Tryz.f3.params.toList args.toList ds p:=hA0
 rw [par3] at hA hval
 obtain ⟨v0,v1,v2,v3,v4,v5,d0,d1,d2,d3,d4,d5,p0,p1,p2,p3,p4,p5,rfl,rfl,rfl,h0,h1,h2,h3,h4,h5⟩:=trodAll_6 hA
 obtain ⟨rfl,rfl⟩:=trodVars_none hV
 obtain ⟨s,rfl,_⟩:=ChangeMaps.open_string u9 (hval 0 9 v0 rfl rfl) h0
 obtain ⟨n,rfl,rfl,rfl,_⟩:=open_int u3 (hval 2 3 v2 rfl rfl) h2
 obtain ⟨k,rfl,rfl,rfl,_⟩:=open_int u3 (hval 3 3 v3 rfl rfl) h3
 obtain ⟨i,rfl,rfl,rfl,_⟩:=open_int u3 (hval 4 3 v4 rfl rfl) h4
 obtain ⟨j,rfl,rfl,rfl,_⟩:=open_int u3 (hval 5 3 v5 rfl rfl) h5
 have hv:v1=.slice none 0 0∨∃ a len cap,v1=.slice (some a) len cap∧a.spot=none:=slice_arg u22 (hval 1 22 v1 rfl rfl)
 have hp:∀ t∈Tryz.f3.params.toList,Tryz.prog.readableRec t=true∧t<Tryz.prog.types.size:=by
  intro t ht
  have:=List.all_eq_true.1 pars3 t ht
  rw [Bool.and_eq_true,decide_eq_true_eq] at this
  exact this
 exact (parses_calls hsh hL s hv h1 n k i j).mono fun e W' he=>⟨_,he.1,law_post rfl hW' laidOut hp u4 res3 rfl he.2⟩
theorem inst3:Tryz.f3.isInstance Tryz.prog Rows.scriptParsesRow.origin Rows.scriptParsesRow.targs:=of_decide_eq_true (by kernel_rfl)
theorem wrap3:Tryz.f3.isWrapper Tryz.prog Rows.scriptParsesRow.wrapper Rows.scriptParsesRow.mainSum:=by unfold Func.isWrapper;first | (rw [if_pos (by decide +kernel)];kernel_rfl) | (rw [if_neg (by decide +kernel)];exact ⟨rfl,rfl⟩)
theorem scriptParses_holds:Rows.ScriptParsesSaid :=
 OpenClaim.holds_of_wide 3 Tryz.f3 rfl rfl rfl rfl rfl rfl rfl ⟨rfl,rfl,rfl,rfl,rfl⟩ rfl rfl rfl rfl rfl named3' Tryz.func3 closed3 inst3 wrap3
  (fun os started H enc _=>parses_lifted os started H enc)
theorem noStand3:([9,22,3,3,3,3].all fun u=>!Tryz.prog.wantsStandIn u)=true:=by kernel_rfl
theorem goesNo3:false=Tryz.prog.goesAt Rows.scriptParsesRow.start Rows.scriptParsesRow.func:=goesAt_no named3' goes3
theorem scriptParses_card:Rows.ScriptParsesCardSaid :=
 Claim7.holds_tied_plain_at .later [] [.data,.data,.data,.data,.sentinel,.sentinel,.data,.data,.data,.data,.pinned] true (true,"381a75e930d642b095c3ce381e0b5036fa91836e7d55ac486192ad5d7e8418d2") true
  scriptParses_holds (fun _ h=>by cases h) (by kernel_rfl) (fun _ h=>by cases h) scriptParses_row_tie rfl ⟨rfl,rfl⟩ (by kernel_rfl) rfl
  (fun f fn hf hfn=>by
   obtain rfl:f=3:=Option.some.inj (named3'.symm.trans hf) |>.symm
   obtain rfl:fn=Tryz.f3:=(Option.some.inj (Tryz.func3.symm.trans hfn)).symm
   exact ⟨by kernel_rfl,fun j t ht=>by
    rw [par3] at ht
    have hm:t∈[9,22,3,3,3,3]:=by simpa using Array.mem_of_getElem? ht
    exact (show Tryz.prog.wantsStandIn t=false by simpa using List.all_eq_true.1 noStand3 t hm)⟩)
  goesNo3
end Go.Proofs.YtimfnccfnefajaaGreatDoor
