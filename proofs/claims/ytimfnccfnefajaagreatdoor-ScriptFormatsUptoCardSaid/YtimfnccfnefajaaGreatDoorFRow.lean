/- A part of the proof: KRowF -/
import Derived.Test.YtimfnccfnefajaaGreatDoorVKo
import Derived.Test.YtimfnccfnefajaaGreatDoorFKp
import Derived.Test.YtimfnccfnefajaaGreatDoorVKk
import Derived.Test.YtimfnccfnefajaaGreatDoorVKj
import Derived.Test.YtimfnccfnefajaaGreatDoorVKi
import Derived.Test.YtimfnccfnefajaaGreatDoorVEvJ
import Derived.Test.YtimfnccfnefajaaGreatDoorVEvI
import Derived.Test.YtimfnccfnefajaaGreatDoorVEvH
import Derived.Test.YtimfnccfnefajaaGreatDoorVEvG
import Derived.Test.YtimfnccfnefajaaGreatDoorVEvF
import Derived.Test.YtimfnccfnefajaaGreatDoorVEvE
import Derived.Test.YtimfnccfnefajaaGreatDoorVEvD
import Derived.Test.YtimfnccfnefajaaGreatDoorVEvC
import Derived.Test.YtimfnccfnefajaaGreatDoorVEvB
import Derived.Test.YtimfnccfnefajaaGreatDoorVEvA
import Derived.Test.YtimfnccfnefajaaGreatDoorVKa
import Derived.Test.YtimfnccfnefajaaGreatDoorFA
import Derived.Test.YtimfnccfnefajaaGreatDoorVMb
import Derived.Test.YtimfnccfnefajaaGreatDoorVMa
import Derived.Test.YtimfnccfnefajaaGreatDoorVRh
import Derived.Test.YtimfnccfnefajaaGreatDoorVRg
import Derived.Test.YtimfnccfnefajaaGreatDoorVRf
import Derived.Test.YtimfnccfnefajaaGreatDoorVRe
import Derived.Test.YtimfnccfnefajaaGreatDoorVRd
import Derived.Test.YtimfnccfnefajaaGreatDoorVRa
import Derived.Test.YtimfnccfnefajaaGreatDoorVWk
import Derived.Test.YtimfnccfnefajaaGreatDoorVWj
import Derived.Test.YtimfnccfnefajaaGreatDoorVWi
import Derived.Test.YtimfnccfnefajaaGreatDoorVWh
import Derived.Test.YtimfnccfnefajaaGreatDoorVWg
import Derived.Test.YtimfnccfnefajaaGreatDoorVWf
import Derived.Test.YtimfnccfnefajaaGreatDoorVWe
import Derived.Test.YtimfnccfnefajaaGreatDoorVWd
import Derived.Test.YtimfnccfnefajaaGreatDoorVWc
import Derived.Test.YtimfnccfnefajaaGreatDoorVWa
import Derived.Test.YtimfnccfnefajaaGreatDoorVWb
import Derived.Test.YtimfnccfnefajaaGreatDoorVRc
import Derived.Test.YtimfnccfnefajaaGreatDoorVRb
import Derived.Test.YtimfnccfnefajaaGreatDoorVWl
import Derived.Test.YtimfnccfnefajaaGreatDoorVWn
import Derived.Test.YtimfnccfnefajaaGreatDoorVWm
import Derived.Deep.DeepHandedRow
set_option linter.unusedSimpArgs false
set_option linter.unusedVariables false
namespace Go.Proofs.YtimfnccfnefajaaGreatDoor
open Go Go.Ev Go.ChangeShapes Go.WideShapes Go.ChangeAt Go.RowKit Go.Proofs
set_option maxRecDepth 100000
theorem pars4:Tryz.f4.params.toList.all (fun t=>Tryz.prog.readableRec t && decide (t<Tryz.prog.types.size))=true:=by kernel_rfl
theorem res4:Tryz.f4.resultTypes=#[4]:=by kernel_rfl
theorem par4:Tryz.f4.params=#[33,22,3]:=by kernel_rfl
theorem bulk_ev {H:Type} {e:Go.Sp.Ev} {d0 d3 d5 d8 d9 d10:DataW H} (h:Rows.uptoBulk (.agg [d0,.lit (.string e.user),.lit (.string e.note),.agg [d3,.lit (.string e.tN)],.agg [d5,.lit (.string e.oN)],.lit (.string e.text),d8,d9,d10])≤1048576) :
 e.user.length≤1048576∧e.note.length≤1048576∧e.text.length≤1048576∧e.tN.length≤1048576∧e.oN.length≤1048576:=by
 simp only [Rows.uptoBulk,Rows.uptoBulkAll] at h
 omega
theorem formats_calls {H:Type} {enc:TypeId×Value→H} {W:World} (hsh:W.ShapedOpen Tryz.prog) (hl:laidMet Tryz.prog laidT W) {x v:Value} {d d':DataW H} {p p':List MemPlace} (hx:Value.okWide Tryz.prog W .any 0 33 x) (hd:DataW.Trod enc Tryz.prog W 0 (fun _=>true) true 33 x d p) (hb:Rows.uptoBulk d≤1048576) (hv:v=.slice none 0 0∨∃ a len cap,v=.slice (some a) len cap∧a.spot=none) (ht:DataW.Trod enc Tryz.prog W 0 (fun _=>true) true 22 v d' p') (s:Int) :
 Calls Tryz.prog 4 #[x,v,.int .i64 s] W fun e W'=>e=.returned (.bool true)∧Below W.heap.size W W':=by
 obtain ⟨B,m,k,rfl,hm,hn⟩:=nums_of hv ht
 obtain ⟨e,A,c,d0,d3,d5,d8,d9,d10,rfl,hR,h63,hbase,hnn,rfl⟩:=ev_of hx hd
 obtain ⟨b1,b2,b3,b4,b5⟩:=bulk_ev hb
 exact (scripts_format e A c B m k s W ⟨b1,b2,b3,b4,b5,hbase,hnn,h63⟩ hR hm hn (gln_of hsh hl) (aw_of hsh hl)).mono fun e W' h=>h
theorem okWide_base {P:Program} {w:World} {b:Nat} {t:TypeId} {v:Value} (h:Value.okWide P w .any b t v):Value.okWide P w .any 0 t v:=h
def args4:Array Value:=#[.agg #[.int .i64 0,.string ⟨#[]⟩,.string ⟨#[]⟩,.int .i64 0,.string ⟨#[]⟩,.int .i64 0,.string ⟨#[]⟩,.string ⟨#[]⟩,.int .i64 0,.int .i64 0,.slice none 0 0],.slice none 0 0,.int .i64 0]
def data4 (H:Type):List (DataW H):=[.agg [.lit (.int .i64 0),.lit (.string []),.lit (.string []),.agg [.lit (.int .i64 0),.lit (.string [])],.agg [.lit (.int .i64 0),.lit (.string [])],.lit (.string []),.lit (.int .i64 0),.lit (.int .i64 0),.nil],.nil,.lit (.int .i64 0)]
theorem whole4 (os:Os) (H:Type) (enc:TypeId×Value→H):DataW.whole enc Tryz.prog ((wWit os).forCall (fun _ _=>0) ⟨#[],args4,[]⟩).memory Tryz.f4.params.toList [] false args4.toList 9=some (data4 H,[],[]):=by kernel_rfl
theorem small4 (H:Type):Rows.uptoSmall H (data4 H ++ [])=true:=by
 show decide (Rows.uptoBulkAll (data4 H ++ [])≤1048576)=true
 rw [decide_eq_true_iff,List.append_nil]
 unfold data4
 simp only [Rows.uptoBulk,Rows.uptoBulkAll,List.length_nil]
 omega
theorem ok4 (os:Os):Input.okWideB Tryz.prog ((wWit os).forCall (fun _ _=>0) ⟨#[],args4,[]⟩) 4 ⟨#[],args4,[]⟩=true:=by kernel_rfl
theorem formats_lifted (os:Os) (started:os.Started) (H:Type) (enc:TypeId×Value→H) (F:Stop.Interp) :
 ReturnsInHanded {} Tryz.checked os 4 .any ((Rows.OpenSpec.upto Rows.scriptFormatsSpec).preRow enc Tryz.prog Tryz.f4 [] false laidT)
  (((Rows.OpenSpec.upto Rows.scriptFormatsSpec).at F).post enc Tryz.prog Tryz.f4 false true false false):=by
 refine returnsInHanded_of_row (C:=Tryz.checked) own started (by kernel_rfl) Tryz.func4
  ⟨wWit os,fun _ _=>0,⟨#[],args4,[]⟩,wWit_os os,wShaped os _,(Input.okWide_of_okWideB (base:=0) (ok4 os)).1,(Input.okWide_of_okWideB (ok4 os)).2,OpenSpec.preRow_of_cond 9 (whole4 os H enc) (by kernel_rfl) (fun k hk=>by obtain rfl:=Option.some.inj hk;exact small4 H) (by kernel_rfl) (wMet os _),by
   simp only [Assume.holds]
   exact ⟨by simp,by simp,fun _=>Modest.zero,by simp,by simp⟩⟩ ?_
 intro W base args ds gs before hval0 hW _ hk _ hL hsh _
 have hval:∀ (j:Nat) t v,Tryz.f4.params[j]? = some t→args[j]? = some v→Value.okWide Tryz.prog W .any base t v:=hval0
 have hL:laidMet Tryz.prog laidT W:=by
  rw [← laidPlain]
  exact hL
 have hW':DataW.Whole enc Tryz.prog Tryz.f4.params.toList Rows.scriptFormatsSpec.vars false W args.toList ds gs before:=hW
 obtain ⟨p,q,hA0,hV,rfl,hfz,hnd⟩:=id hW'
 have hA:DataW.TrodAll enc Tryz.prog W 0 (fun _=>true) true Tryz.f4.params.toList args.toList ds p:=hA0
 rw [par4] at hA hval
 obtain ⟨v0,v1,v2,d0,d1,d2,p0,p1,p2,rfl,rfl,rfl,h0,h1,h2⟩:=trodAll_three hA
 obtain ⟨rfl,rfl⟩:=trodVars_none hV
 obtain ⟨s,rfl,rfl,rfl,_⟩:=open_int u3 (hval 2 3 v2 rfl rfl) h2
 have hv:v1=.slice none 0 0∨∃ a len cap,v1=.slice (some a) len cap∧a.spot=none:=slice_arg u22 (hval 1 22 v1 rfl rfl)
 have hb:Rows.uptoBulk d0≤1048576:=by
  have h:=of_decide_eq_true (hk _ rfl)
  simp only [List.append_nil,Rows.uptoBulkAll] at h
  omega
 have hp:∀ t∈Tryz.f4.params.toList,Tryz.prog.readableRec t=true∧t<Tryz.prog.types.size:=by
  intro t ht
  have:=List.all_eq_true.1 pars4 t ht
  rw [Bool.and_eq_true,decide_eq_true_eq] at this
  exact this
 exact (formats_calls hsh hL (okWide_base (hval 0 33 v0 rfl rfl)) h0 hb hv h1 s).mono fun e W' he=>⟨_,he.1,law_post (s:=(Rows.OpenSpec.upto Rows.scriptFormatsSpec).at F) rfl hW' laidOut hp u4 res4 rfl he.2⟩
theorem inst4:Tryz.f4.isInstance Tryz.prog Rows.scriptFormatsUptoRow.origin Rows.scriptFormatsUptoRow.targs:=of_decide_eq_true (by kernel_rfl)
theorem wrap4:Tryz.f4.isWrapper Tryz.prog Rows.scriptFormatsUptoRow.wrapper Rows.scriptFormatsUptoRow.mainSum:=by unfold Func.isWrapper;first | (rw [if_pos (by decide +kernel)];kernel_rfl) | (rw [if_neg (by decide +kernel)];exact ⟨rfl,rfl⟩)
theorem scriptFormatsUpto_holds:Rows.ScriptFormatsUptoSaid :=
 OpenClaim.holds_of_cond 4 Tryz.f4 rfl rfl rfl rfl rfl rfl rfl ⟨rfl,rfl,rfl,rfl,rfl⟩ rfl rfl rfl rfl rfl named4' Tryz.func4 closed4 inst4 wrap4
  (fun os started H enc _ F=>by rw [OpenClaim.pre_eq_preRow];exact formats_lifted os started H enc F)
theorem noStand4:([33,22,3].all fun u=>!Tryz.prog.wantsStandIn u)=true:=by kernel_rfl
theorem goesNo4:false=Tryz.prog.goesAt Rows.scriptFormatsUptoRow.start Rows.scriptFormatsUptoRow.func:=goesAt_no named4' goes4
theorem scriptFormatsUpto_card:Rows.ScriptFormatsUptoCardSaid :=
 Claim7.holds_tied_plain_at .later [] [.data,.data,.data,.data,.sentinel,.sentinel,.data,.data,.data,.data,.pinned] true (true,"381a75e930d642b095c3ce381e0b5036fa91836e7d55ac486192ad5d7e8418d2") true
  scriptFormatsUpto_holds (fun _ h=>by cases h) (by kernel_rfl) (fun _ h=>by cases h) scriptFormatsUpto_row_tie rfl ⟨rfl,rfl⟩ (by kernel_rfl) rfl
  (fun f fn hf hfn=>by
   obtain rfl:f=4:=Option.some.inj (named4'.symm.trans hf) |>.symm
   obtain rfl:fn=Tryz.f4:=(Option.some.inj (Tryz.func4.symm.trans hfn)).symm
   exact ⟨by kernel_rfl,fun j t ht=>by
    rw [par4] at ht
    have hm:t∈[33,22,3]:=by simpa using Array.mem_of_getElem? ht
    exact (show Tryz.prog.wantsStandIn t=false by simpa using List.all_eq_true.1 noStand4 t hm)⟩)
  goesNo4
end Go.Proofs.YtimfnccfnefajaaGreatDoor
