/- A part of the proof: KWit -/
import Derived.Test.YtimfnccfnefajaaGreatDoorVKg
import Derived.Test.YtimfnccfnefajaaGreatDoorVKk
import Derived.Lay
set_option linter.unusedSimpArgs false
set_option linter.unusedVariables false
namespace Go.Proofs.YtimfnccfnefajaaGreatDoor
open Go Go.Ev Go.ChangeShapes Go.WideShapes Go.ChangeAt Go.RowKit
set_option maxRecDepth 100000
noncomputable def greatT:List String:=(laidT.filter fun x=>match x.2 with | .iface _ _=>false | _=>true).map (·.1)
def errV (k:Nat):List Value:=[.iface 798 (.pointer (some ⟨k,0,none⟩))]
def strB (bs:List UInt8):Obj:=.cells #[.string ⟨bs.toArray⟩] 800
noncomputable def wBase (os:Os):World:={ World.holding Tryz.prog os ⟨#[],#[],[]⟩ with heap:=⟨Lay.setRows (World.holding Tryz.prog os ⟨#[],#[],[]⟩).heap.toList [(8,errV 17),(7,errV 18)] ++ [strB [118,97,108,117,101,32,111,117,116,32,111,102,32,114,97,110,103,101],strB [105,110,118,97,108,105,100,32,115,121,110,116,97,120]]⟩ }
noncomputable def wWit (os:Os):World:=(wBase os).layVars Tryz.prog (laidT.filter fun x=>greatT.contains x.1)
theorem wWit_os (os:Os):(wWit os).os=os:=World.layVars_os _ _ _
theorem wFits (os:Os):(wBase os).layFits Tryz.prog (laidT.filter fun x=>greatT.contains x.1) [7,8,17,18]=true:=by kernel_rfl
theorem wIfaces (os:Os):(wBase os).layIfaces Tryz.prog (laidT.filter fun x=>greatT.contains x.1) (wWit os)=true:=by kernel_rfl
theorem wErrs (os:Os):LaidIn Tryz.prog (wWit os) (laidT.filter fun x=>!greatT.contains x.1) [7,8,17,18] :=
 LaidIn.of_run _ 6 (by kernel_rfl) (by kernel_rfl) (by kernel_rfl) (by kernel_rfl)
theorem laidPlain (w:World):laidMetH Tryz.prog laidT w=laidMet Tryz.prog laidT w:=MakeChecks.laidMetH_plain _ _ _ (by kernel_rfl)
theorem wMet (os:Os) (args:Array Value):laidMetH Tryz.prog laidT ((wWit os).forCall (fun _ _=>0) ⟨#[],args,[]⟩).memory:=by
 rw [laidPlain]
 have h:laidMet Tryz.prog laidT (wWit os):=laidMet_layVars (w0:=wBase os) greatT [7,8,17,18] rfl (wFits os) (wIfaces os) (wErrs os)
 exact h.of_heap (by simp [World.memory,World.forCall,Input.heap])
theorem wShaped (os:Os) (args:Array Value):((wWit os).forCall (fun _ _=>0) ⟨#[],args,[]⟩).Shaped Tryz.prog:=World.shaped_of_ZipB (by kernel_rfl) (by kernel_rfl)
end Go.Proofs.YtimfnccfnefajaaGreatDoor
