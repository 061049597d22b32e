/- A part of the proof: KRowL -/
import Derived.Test.YtimfnccfnefajaaGreatDoorVKo
import Derived.Test.YtimfnccfnefajaaGreatDoorLKp
import Derived.Test.YtimfnccfnefajaaGreatDoorVKk
import Derived.Test.YtimfnccfnefajaaGreatDoorVKj
import Derived.Test.YtimfnccfnefajaaGreatDoorVKi
import Derived.Test.YtimfnccfnefajaaGreatDoorVEvJ
import Derived.Test.YtimfnccfnefajaaGreatDoorVEvI
import Derived.Test.YtimfnccfnefajaaGreatDoorVEvH
import Derived.Test.YtimfnccfnefajaaGreatDoorVEvG
import Derived.Test.YtimfnccfnefajaaGreatDoorVEvF
import Derived.Test.YtimfnccfnefajaaGreatDoorVEvE
import Derived.Test.YtimfnccfnefajaaGreatDoorVEvD
import Derived.Test.YtimfnccfnefajaaGreatDoorVEvC
import Derived.Test.YtimfnccfnefajaaGreatDoorVEvB
import Derived.Test.YtimfnccfnefajaaGreatDoorVEvA
import Derived.Test.YtimfnccfnefajaaGreatDoorVKa
import Derived.Test.YtimfnccfnefajaaGreatDoorLA
import Derived.Test.YtimfnccfnefajaaGreatDoorVMb
import Derived.Test.YtimfnccfnefajaaGreatDoorVMa
import Derived.Test.YtimfnccfnefajaaGreatDoorVRh
import Derived.Test.YtimfnccfnefajaaGreatDoorVRg
import Derived.Test.YtimfnccfnefajaaGreatDoorVRf
import Derived.Test.YtimfnccfnefajaaGreatDoorVRe
import Derived.Test.YtimfnccfnefajaaGreatDoorVRd
import Derived.Test.YtimfnccfnefajaaGreatDoorVRa
import Derived.Test.YtimfnccfnefajaaGreatDoorVWk
import Derived.Test.YtimfnccfnefajaaGreatDoorVWj
import Derived.Test.YtimfnccfnefajaaGreatDoorVWi
import Derived.Test.YtimfnccfnefajaaGreatDoorVWh
import Derived.Test.YtimfnccfnefajaaGreatDoorVWg
import Derived.Test.YtimfnccfnefajaaGreatDoorVWf
import Derived.Test.YtimfnccfnefajaaGreatDoorVWe
import Derived.Test.YtimfnccfnefajaaGreatDoorVWd
import Derived.Test.YtimfnccfnefajaaGreatDoorVWc
import Derived.Test.YtimfnccfnefajaaGreatDoorVWa
import Derived.Test.YtimfnccfnefajaaGreatDoorVWb
import Derived.Test.YtimfnccfnefajaaGreatDoorVRc
import Derived.Test.YtimfnccfnefajaaGreatDoorVRb
import Derived.Test.YtimfnccfnefajaaGreatDoorVWl
import Derived.Test.YtimfnccfnefajaaGreatDoorVWn
import Derived.Test.YtimfnccfnefajaaGreatDoorVWm
import Derived.ChangeMaps5
set_option linter.unusedSimpArgs false
set_option linter.unusedVariables false
namespace Go.Proofs.YtimfnccfnefajaaGreatDoor
open Go Go.Ev Go.ChangeShapes Go.WideShapes Go.ChangeAt Go.RowKit Go.Proofs
set_option maxRecDepth 100000
theorem pars6:Tryz.f6.params.toList.all (fun t=>Tryz.prog.readableRec t && decide (t<Tryz.prog.types.size))=true:=by kernel_rfl
theorem res6:Tryz.f6.resultTypes=#[4]:=by kernel_rfl
theorem par6:Tryz.f6.params=#[22,22,3,3]:=by kernel_rfl
theorem trodAll_4 {H:Type} {enc:TypeId×Value→H} {P:Program} {w:World} {base:Nat} {spare:Nat→Bool} {held:Bool} {t1 t2 t3 t4:TypeId} {args:Array Value} {ds:List (DataW H)} {ps:List MemPlace} (h:DataW.TrodAll enc P w base spare held [t1,t2,t3,t4] args.toList ds ps) :
 ∃ v1 v2 v3 v4 d1 d2 d3 d4 p1 p2 p3 p4,args=#[v1,v2,v3,v4]∧ds=[d1,d2,d3,d4]∧ps=p1 ++ p2 ++ p3 ++ p4∧DataW.Trod enc P w base spare held t1 v1 d1 p1∧DataW.Trod enc P w base spare held t2 v2 d2 p2∧DataW.Trod enc P w base spare held t3 v3 d3 p3∧DataW.Trod enc P w base spare held t4 v4 d4 p4:=by
 obtain ⟨v1,vs,d1,ds1,p1,q1,hargs,rfl,rfl,h1,h⟩:=trodAll_cons h
 obtain ⟨v2,vs,d2,ds2,p2,q2,rfl,rfl,rfl,h2,h⟩:=trodAll_cons h
 obtain ⟨v3,vs,d3,ds3,p3,q3,rfl,rfl,rfl,h3,h⟩:=trodAll_cons h
 obtain ⟨v4,vs,d4,ds4,p4,q4,rfl,rfl,rfl,h4,h⟩:=trodAll_cons h
 obtain ⟨rfl,rfl,rfl⟩:=trodAll_nil h
 exact ⟨v1,v2,v3,v4,d1,d2,d3,d4,p1,p2,p3,p4,by cases args;simp_all,rfl,by simp,h1,h2,h3,h4⟩
theorem lines_calls {H:Type} {enc:TypeId×Value→H} {W:World} (hsh:W.ShapedOpen Tryz.prog) (hl:laidMet Tryz.prog laidT W) {v u:Value} {d d':DataW H} {p p':List MemPlace} (hv:v=.slice none 0 0∨∃ a len cap,v=.slice (some a) len cap∧a.spot=none) (ht:DataW.Trod enc Tryz.prog W 0 (fun _=>true) true 22 v d p) (hu:u=.slice none 0 0∨∃ a len cap,u=.slice (some a) len cap∧a.spot=none) (ht2:DataW.Trod enc Tryz.prog W 0 (fun _=>true) true 22 u d' p') (s t:Int) :
 Calls Tryz.prog 6 #[v,u,.int .i64 s,.int .i64 t] W fun e W'=>e=.returned (.bool true)∧Below W.heap.size W W':=by
 obtain ⟨A,m,c,rfl,hm,hn⟩:=nums_of hv ht
 obtain ⟨B,n,k,rfl,hm2,hn2⟩:=nums_of hu ht2
 exact (lines_ok A B m n c k s t W hm hm2 hn hn2 (gln_of hsh hl) (aw_of hsh hl)).mono fun e W' h=>h
theorem lines_lifted (os:Os) (started:os.Started) (H:Type) (enc:TypeId×Value→H) :
 ReturnsInHanded {} Tryz.checked os 6 .any (fun w args=>(Rows.scriptLinesSpec.pre enc Tryz.prog Tryz.f6 [] false w args∧laidMetH Tryz.prog laidT w)∧sizedMet enc Tryz.prog Tryz.f6 (OpenSpec.ofChange Rows.scriptLinesSpec) false w args)
  (Rows.scriptLinesSpec.post enc Tryz.prog Tryz.f6 false true false false):=by
 refine handed_and (C:=Tryz.checked) (X:=fun w _=>laidMetH Tryz.prog laidT w) (fun _ _ _ hh h=>h.of_heap hh) own started (by kernel_rfl) Tryz.func6
  (ChangeSpec.witness_shaped (enc:=enc) (C:=Tryz.checked) (os:=os) (X:=fun w _=>laidMetH Tryz.prog laidT w) false (wWit os) #[.slice none 0 0,.slice none 0 0,.int .i64 0,.int .i64 0] 6 (wWit_os os) (wShaped os _) (by kernel_rfl) (by kernel_rfl) (by kernel_rfl) (wMet os _)) ?_
 intro W base args ds gs before hval0 hW _ hsh hL
 have hval:∀ (j:Nat) t v,Tryz.f6.params[j]? = some t→args[j]? = some v→Value.okWide Tryz.prog W .any base t v:=hval0
 have hL:laidMet Tryz.prog laidT W:=by
  rw [← laidPlain]
  exact hL
 have hW':DataW.Whole enc Tryz.prog Tryz.f6.params.toList Rows.scriptLinesSpec.vars false W args.toList ds gs before:=hW
 obtain ⟨p,q,hA0,hV,rfl,hfz,hnd⟩:=id hW'
 have hA:DataW.TrodAll enc Tryz.prog W 0 (fun _=>true) true Tryz.f6.params.toList args.toList ds p:=hA0
 rw [par6] at hA hval
 obtain ⟨v0,v1,v2,v3,d0,d1,d2,d3,p0,p1,p2,p3,rfl,rfl,rfl,h0,h1,h2,h3⟩:=trodAll_4 hA
 obtain ⟨rfl,rfl⟩:=trodVars_none hV
 obtain ⟨s,rfl,rfl,rfl,_⟩:=open_int u3 (hval 2 3 v2 rfl rfl) h2
 obtain ⟨t,rfl,rfl,rfl,_⟩:=open_int u3 (hval 3 3 v3 rfl rfl) h3
 have hv:v0=.slice none 0 0∨∃ a len cap,v0=.slice (some a) len cap∧a.spot=none:=slice_arg u22 (hval 0 22 v0 rfl rfl)
 have hu:v1=.slice none 0 0∨∃ a len cap,v1=.slice (some a) len cap∧a.spot=none:=slice_arg u22 (hval 1 22 v1 rfl rfl)
 have hp:∀ t∈Tryz.f6.params.toList,Tryz.prog.readableRec t=true∧t<Tryz.prog.types.size:=by
  intro t ht
  have:=List.all_eq_true.1 pars6 t ht
  rw [Bool.and_eq_true,decide_eq_true_eq] at this
  exact this
 exact (lines_calls hsh hL hv h0 hu h1 s t).mono fun e W' he=>⟨_,he.1,law_post rfl hW' laidOut hp u4 res6 rfl he.2⟩
theorem inst6:Tryz.f6.isInstance Tryz.prog Rows.scriptLinesRow.origin Rows.scriptLinesRow.targs:=of_decide_eq_true (by kernel_rfl)
theorem wrap6:Tryz.f6.isWrapper Tryz.prog Rows.scriptLinesRow.wrapper Rows.scriptLinesRow.mainSum:=by unfold Func.isWrapper;first | (rw [if_pos (by decide +kernel)];kernel_rfl) | (rw [if_neg (by decide +kernel)];exact ⟨rfl,rfl⟩)
theorem scriptLines_holds:Rows.ScriptLinesSaid :=
 OpenClaim.holds_of_wide 6 Tryz.f6 rfl rfl rfl rfl rfl rfl rfl ⟨rfl,rfl,rfl,rfl,rfl⟩ rfl rfl rfl rfl rfl named6' Tryz.func6 closed6 inst6 wrap6
  (fun os started H enc _=>lines_lifted os started H enc)
theorem noStand6:([22,22,3,3].all fun u=>!Tryz.prog.wantsStandIn u)=true:=by kernel_rfl
theorem goesNo6:false=Tryz.prog.goesAt Rows.scriptLinesRow.start Rows.scriptLinesRow.func:=goesAt_no named6' goes6
theorem scriptLines_card:Rows.ScriptLinesCardSaid :=
 Claim7.holds_tied_plain_at .later [] [.data,.data,.data,.data,.sentinel,.sentinel,.data,.data,.data,.data,.pinned] true (true,"381a75e930d642b095c3ce381e0b5036fa91836e7d55ac486192ad5d7e8418d2") true
  scriptLines_holds (fun _ h=>by cases h) (by kernel_rfl) (fun _ h=>by cases h) scriptLines_row_tie rfl ⟨rfl,rfl⟩ (by kernel_rfl) rfl
  (fun f fn hf hfn=>by
   obtain rfl:f=6:=Option.some.inj (named6'.symm.trans hf) |>.symm
   obtain rfl:fn=Tryz.f6:=(Option.some.inj (Tryz.func6.symm.trans hfn)).symm
   exact ⟨by kernel_rfl,fun j t ht=>by
    rw [par6] at ht
    have hm:t∈[22,22,3,3]:=by simpa using Array.mem_of_getElem? ht
    exact (show Tryz.prog.wantsStandIn t=false by simpa using List.all_eq_true.1 noStand6 t hm)⟩)
  goesNo6
end Go.Proofs.YtimfnccfnefajaaGreatDoor
