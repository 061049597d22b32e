/- A part of the proof: KExt -/
import Derived.Test.YtimfnccfnefajaaGreatDoorChecked
import Derived.KernelRfl
import Derived.Test.YtimfnccfnefajaaGreatDoorVEvI
set_option linter.unusedSimpArgs false
set_option linter.unusedVariables false
namespace Go.Ev
open Go.Proofs
set_option maxRecDepth 100000
theorem x156:ExtFn Tryz.prog 156 Extern.AbiNoEscape.same:=⟨⟨Tryz.f156,by kernel_rfl,by kernel_rfl,by kernel_rfl,by kernel_rfl,by kernel_rfl⟩⟩
theorem x157:ExtFn Tryz.prog 157 (Extern.BytealgMakeNoZero.makeNoZero Tryz.f157.params #[91]):=⟨⟨Tryz.f157,by kernel_rfl,by kernel_rfl,by kernel_rfl,by kernel_rfl,by kernel_rfl⟩⟩
theorem u91:Tryz.prog.underlying 91=some (.slice 5):=by kernel_rfl
theorem x164:ExtFn Tryz.prog 164 Extern.BytealgCount.count:=⟨⟨Tryz.f164,by kernel_rfl,by kernel_rfl,by kernel_rfl,by kernel_rfl,by kernel_rfl⟩⟩
theorem x401:ExtFn Tryz.prog 401 Extern.BytealgIndexByte.indexByte:=⟨⟨Tryz.f401,by kernel_rfl,by kernel_rfl,by kernel_rfl,by kernel_rfl,by kernel_rfl⟩⟩
theorem x628:ExtFn Tryz.prog 628 Extern.BytealgCompare.compare:=⟨⟨Tryz.f628,by kernel_rfl,by kernel_rfl,by kernel_rfl,by kernel_rfl,by kernel_rfl⟩⟩
theorem x847:ExtFn Tryz.prog 847 (Extern.Atomic.loadT (.int .u32)):=⟨⟨Tryz.f847,by kernel_rfl,by kernel_rfl,by kernel_rfl,by kernel_rfl,by kernel_rfl⟩⟩
theorem x877:ExtFn Tryz.prog 877 Extern.Atomic.storeT:=⟨⟨Tryz.f877,by kernel_rfl,by kernel_rfl,by kernel_rfl,by kernel_rfl,by kernel_rfl⟩⟩
theorem x909:ExtFn Tryz.prog 909 (fun _=>do mark .disable;pure Extern.Race.none_):=⟨⟨Tryz.f909,by kernel_rfl,by kernel_rfl,by kernel_rfl,by kernel_rfl,by kernel_rfl⟩⟩
theorem x910:ExtFn Tryz.prog 910 (Extern.Atomic.casT (.int .i32)):=⟨⟨Tryz.f910,by kernel_rfl,by kernel_rfl,by kernel_rfl,by kernel_rfl,by kernel_rfl⟩⟩
theorem x911:ExtFn Tryz.prog 911 (fun _=>do mark .enable;pure Extern.Race.none_):=⟨⟨Tryz.f911,by kernel_rfl,by kernel_rfl,by kernel_rfl,by kernel_rfl,by kernel_rfl⟩⟩
theorem x912:ExtFn Tryz.prog 912 (Extern.Race.marked .acquire):=⟨⟨Tryz.f912,by kernel_rfl,by kernel_rfl,by kernel_rfl,by kernel_rfl,by kernel_rfl⟩⟩
theorem x914:ExtFn Tryz.prog 914 (Extern.Race.marked .releaseMerge):=⟨⟨Tryz.f914,by kernel_rfl,by kernel_rfl,by kernel_rfl,by kernel_rfl,by kernel_rfl⟩⟩
theorem x915:ExtFn Tryz.prog 915 (Extern.Atomic.update (Op.intArith .add) .i32 true):=⟨⟨Tryz.f915,by kernel_rfl,by kernel_rfl,by kernel_rfl,by kernel_rfl,by kernel_rfl⟩⟩
theorem mixed:Tryz.prog.follows .mixedOrders=true:=by kernel_rfl
noncomputable def numCheck (l:List Func):Bool:=lall (fun f=>bnot (strEq f.name "runtime.NumGoroutine")) l
theorem nums:numCheck Tryz.funcs.toList=true:=by kernel_rfl
theorem glsz:Tryz.prog.globals.size=12:=by kernel_rfl
theorem e5:Tryz.prog.cellsOf 5=1:=by kernel_rfl
end Go.Ev
