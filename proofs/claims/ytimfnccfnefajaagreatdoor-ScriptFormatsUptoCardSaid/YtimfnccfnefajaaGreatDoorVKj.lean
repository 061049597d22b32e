/- A part of the proof: KFa -/
import Derived.Test.YtimfnccfnefajaaGreatDoorVKi
import GoSem.ClaimJoined
import GoSem.ClaimOpen
import Derived.JoinedOf
set_option linter.unusedSimpArgs false
set_option linter.unusedVariables false
namespace Go.Ev
open Go.Proofs
set_option maxRecDepth 100000
theorem tSize:Tryz.prog.types.size=1100:=by kernel_rfl
theorem rf0:lall (rowFine Tryz.prog) (chunk (List.range 1100) 138 0)=true:=by kernel_rfl
theorem rf1:lall (rowFine Tryz.prog) (chunk (List.range 1100) 138 1)=true:=by kernel_rfl
theorem rf2:lall (rowFine Tryz.prog) (chunk (List.range 1100) 138 2)=true:=by kernel_rfl
theorem rf3:lall (rowFine Tryz.prog) (chunk (List.range 1100) 138 3)=true:=by kernel_rfl
theorem rf4:lall (rowFine Tryz.prog) (chunk (List.range 1100) 138 4)=true:=by kernel_rfl
theorem rf5:lall (rowFine Tryz.prog) (chunk (List.range 1100) 138 5)=true:=by kernel_rfl
theorem rf6:lall (rowFine Tryz.prog) (chunk (List.range 1100) 138 6)=true:=by kernel_rfl
theorem rf7:lall (rowFine Tryz.prog) (chunk (List.range 1100) 138 7)=true:=by kernel_rfl
theorem rowFine_all:(List.range Tryz.prog.types.size).all (rowFine Tryz.prog)=true:=by
 rw [tSize,List.all_eq_true]
 refine all_chunks (n:=138) (m:=8) (by decide) (fun k hk=>?_) (by rw [List.length_range];decide)
 match k,hk with
 | 0,_=>exact rf0
 | 1,_=>exact rf1
 | 2,_=>exact rf2
 | 3,_=>exact rf3
 | 4,_=>exact rf4
 | 5,_=>exact rf5
 | 6,_=>exact rf6
 | 7,_=>exact rf7
 | n+8,h=>omega
def mapRow (P:Program) (t:Nat):Bool:=match P.underlying t with | some (.map _ e)=>decide (e<P.types.size) | _=>true
theorem mr0:lall (mapRow Tryz.prog) (chunk (List.range 1100) 138 0)=true:=by kernel_rfl
theorem mr1:lall (mapRow Tryz.prog) (chunk (List.range 1100) 138 1)=true:=by kernel_rfl
theorem mr2:lall (mapRow Tryz.prog) (chunk (List.range 1100) 138 2)=true:=by kernel_rfl
theorem mr3:lall (mapRow Tryz.prog) (chunk (List.range 1100) 138 3)=true:=by kernel_rfl
theorem mr4:lall (mapRow Tryz.prog) (chunk (List.range 1100) 138 4)=true:=by kernel_rfl
theorem mr5:lall (mapRow Tryz.prog) (chunk (List.range 1100) 138 5)=true:=by kernel_rfl
theorem mr6:lall (mapRow Tryz.prog) (chunk (List.range 1100) 138 6)=true:=by kernel_rfl
theorem mr7:lall (mapRow Tryz.prog) (chunk (List.range 1100) 138 7)=true:=by kernel_rfl
theorem mapsRowed_all:mapsRowed Tryz.prog=true:=by
 unfold mapsRowed
 rw [tSize,List.all_eq_true]
 refine all_chunks (p:=mapRow Tryz.prog) (n:=138) (m:=8) (by decide) (fun k hk=>?_) (by rw [List.length_range];decide)
 match k,hk with
 | 0,_=>exact mr0
 | 1,_=>exact mr1
 | 2,_=>exact mr2
 | 3,_=>exact mr3
 | 4,_=>exact mr4
 | 5,_=>exact mr5
 | 6,_=>exact mr6
 | 7,_=>exact mr7
 | n+8,h=>omega
theorem globFine:Tryz.prog.globals.all (fun g=>decide (g.type<Tryz.prog.types.size))=true:=by
 rw [tSize]
 kernel_rfl
def parFine (f:Func):Bool:=f.params.all fun t=>decide (t<1100)
theorem pf0:lall parFine (chunk Tryz.prog.funcs.toList 130 0)=true:=by kernel_rfl
theorem pf1:lall parFine (chunk Tryz.prog.funcs.toList 130 1)=true:=by kernel_rfl
theorem pf2:lall parFine (chunk Tryz.prog.funcs.toList 130 2)=true:=by kernel_rfl
theorem pf3:lall parFine (chunk Tryz.prog.funcs.toList 130 3)=true:=by kernel_rfl
theorem pf4:lall parFine (chunk Tryz.prog.funcs.toList 130 4)=true:=by kernel_rfl
theorem pf5:lall parFine (chunk Tryz.prog.funcs.toList 130 5)=true:=by kernel_rfl
theorem pf6:lall parFine (chunk Tryz.prog.funcs.toList 130 6)=true:=by kernel_rfl
theorem pf7:lall parFine (chunk Tryz.prog.funcs.toList 130 7)=true:=by kernel_rfl
theorem parFine_all:∀ g∈Tryz.prog.funcs.toList,parFine g=true:=by
 refine all_chunks (n:=130) (m:=8) (by decide) (fun k hk=>?_) fLe
 match k,hk with
 | 0,_=>exact pf0
 | 1,_=>exact pf1
 | 2,_=>exact pf2
 | 3,_=>exact pf3
 | 4,_=>exact pf4
 | 5,_=>exact pf5
 | 6,_=>exact pf6
 | 7,_=>exact pf7
 | n+8,h=>omega
theorem laidOut_all:laidOutB Tryz.prog=true:=by
 unfold laidOutB
 rw [rowFine_all,globFine,tSize]
 rw [show Tryz.prog.funcs.all (fun f=>f.params.all fun t=>decide (t<1100))=true from by
  rw [← Array.all_toList,List.all_eq_true]
  exact parFine_all]
 rfl
def laysNot (fn:Func):Bool:=!(fn.body.isNone && (fn.name == "runtime.SetFinalizer" || fn.name == "runtime.AddCleanup" || fn.origin == "runtime.AddCleanup"))
def reflNot (fn:Func):Bool:=!(fn.body.isNone && (opensWith (nameBytes "reflect.") (nameBytes fn.name) || opensWith (nameBytes "(reflect.") (nameBytes fn.name) || opensWith (nameBytes "(*reflect.") (nameBytes fn.name)))
def doorP (fn:Func):Bool:=fn.body.isNone && opensWith (nameBytes "var's door: ") (nameBytes fn.name)
def elder (n:List UInt8):Bool:=["(look 8)","(look 8, test files too)","(list 7)","(look 7)"].any (endsIn · n)
def doorNot (fn:Func):Bool:=!(doorP fn && elder (nameBytes fn.name).reverse)
theorem la0:lall laysNot (chunk Tryz.prog.funcs.toList 130 0)=true:=by kernel_rfl
theorem la1:lall laysNot (chunk Tryz.prog.funcs.toList 130 1)=true:=by kernel_rfl
theorem la2:lall laysNot (chunk Tryz.prog.funcs.toList 130 2)=true:=by kernel_rfl
theorem la3:lall laysNot (chunk Tryz.prog.funcs.toList 130 3)=true:=by kernel_rfl
theorem la4:lall laysNot (chunk Tryz.prog.funcs.toList 130 4)=true:=by kernel_rfl
theorem la5:lall laysNot (chunk Tryz.prog.funcs.toList 130 5)=true:=by kernel_rfl
theorem la6:lall laysNot (chunk Tryz.prog.funcs.toList 130 6)=true:=by kernel_rfl
theorem la7:lall laysNot (chunk Tryz.prog.funcs.toList 130 7)=true:=by kernel_rfl
theorem laysNot_all:∀ g∈Tryz.prog.funcs.toList,laysNot g=true:=by
 refine all_chunks (n:=130) (m:=8) (by decide) (fun k hk=>?_) fLe
 match k,hk with
 | 0,_=>exact la0
 | 1,_=>exact la1
 | 2,_=>exact la2
 | 3,_=>exact la3
 | 4,_=>exact la4
 | 5,_=>exact la5
 | 6,_=>exact la6
 | 7,_=>exact la7
 | n+8,h=>omega
theorem re0:lall reflNot (chunk Tryz.prog.funcs.toList 130 0)=true:=by kernel_rfl
theorem re1:lall reflNot (chunk Tryz.prog.funcs.toList 130 1)=true:=by kernel_rfl
theorem re2:lall reflNot (chunk Tryz.prog.funcs.toList 130 2)=true:=by kernel_rfl
theorem re3:lall reflNot (chunk Tryz.prog.funcs.toList 130 3)=true:=by kernel_rfl
theorem re4:lall reflNot (chunk Tryz.prog.funcs.toList 130 4)=true:=by kernel_rfl
theorem re5:lall reflNot (chunk Tryz.prog.funcs.toList 130 5)=true:=by kernel_rfl
theorem re6:lall reflNot (chunk Tryz.prog.funcs.toList 130 6)=true:=by kernel_rfl
theorem re7:lall reflNot (chunk Tryz.prog.funcs.toList 130 7)=true:=by kernel_rfl
theorem reflNot_all:∀ g∈Tryz.prog.funcs.toList,reflNot g=true:=by
 refine all_chunks (n:=130) (m:=8) (by decide) (fun k hk=>?_) fLe
 match k,hk with
 | 0,_=>exact re0
 | 1,_=>exact re1
 | 2,_=>exact re2
 | 3,_=>exact re3
 | 4,_=>exact re4
 | 5,_=>exact re5
 | 6,_=>exact re6
 | 7,_=>exact re7
 | n+8,h=>omega
theorem dn0:lall doorNot (chunk Tryz.prog.funcs.toList 130 0)=true:=by kernel_rfl
theorem dn1:lall doorNot (chunk Tryz.prog.funcs.toList 130 1)=true:=by kernel_rfl
theorem dn2:lall doorNot (chunk Tryz.prog.funcs.toList 130 2)=true:=by kernel_rfl
theorem dn3:lall doorNot (chunk Tryz.prog.funcs.toList 130 3)=true:=by kernel_rfl
theorem dn4:lall doorNot (chunk Tryz.prog.funcs.toList 130 4)=true:=by kernel_rfl
theorem dn5:lall doorNot (chunk Tryz.prog.funcs.toList 130 5)=true:=by kernel_rfl
theorem dn6:lall doorNot (chunk Tryz.prog.funcs.toList 130 6)=true:=by kernel_rfl
theorem dn7:lall doorNot (chunk Tryz.prog.funcs.toList 130 7)=true:=by kernel_rfl
theorem doorNot_all:∀ g∈Tryz.prog.funcs.toList,doorNot g=true:=by
 refine all_chunks (n:=130) (m:=8) (by decide) (fun k hk=>?_) fLe
 match k,hk with
 | 0,_=>exact dn0
 | 1,_=>exact dn1
 | 2,_=>exact dn2
 | 3,_=>exact dn3
 | 4,_=>exact dn4
 | 5,_=>exact dn5
 | 6,_=>exact dn6
 | 7,_=>exact dn7
 | n+8,h=>omega
theorem laysLater_no:Tryz.prog.laysLater=false:=by
 unfold Program.laysLater
 rw [← Array.any_toList,List.any_eq_false]
 intro fn hfn
 have h:=laysNot_all fn hfn
 unfold laysNot at h
 rw [Bool.not_eq_true'] at h
 rw [h]
 exact Bool.false_ne_true
theorem bearsReflect_no:Tryz.prog.bearsReflect=false:=by
 unfold Program.bearsReflect
 rw [List.any_eq_false]
 intro fn hfn
 have h:=reflNot_all fn hfn
 unfold reflNot at h
 rw [Bool.not_eq_true'] at h
 rw [h]
 exact Bool.false_ne_true
theorem doorRows_no:Tryz.prog.doorRows.any elder=false:=by
 unfold Program.doorRows
 rw [List.any_eq_false]
 intro n hn
 obtain ⟨fn,hfn,rfl⟩:=List.mem_map.1 hn
 obtain ⟨hm,hp⟩:=List.mem_filter.1 hfn
 have h:=doorNot_all fn hm
 unfold doorNot at h
 rw [Bool.not_eq_true'] at h
 have hp:doorP fn=true:=hp
 rw [hp,Bool.true_and] at h
 rw [h]
 exact Bool.false_ne_true
theorem doorFits_nil:Tryz.prog.doorFits []=true:=by
 unfold Program.doorFits
 have h:(Tryz.prog.doorRows.any fun n=>["(look 8)","(look 8, test files too)","(list 7)","(look 7)"].any (endsIn · n))=false:=doorRows_no
 dsimp only
 rw [h]
 simp
theorem headWords:behindMainWord (wordsSigns Tryz.prog.initOrder.toList)=["cut".toList,"at".toList,"transclude/trclaw44.ScriptParses".toList,"transclude/trclaw44.ScriptFormats".toList,"transclude/trclaw44.ScriptBack".toList,"transclude/trclaw44.ScriptLines".toList,"transclude/trclaw44.ScriptWrong".toList,"transclude/trclaw44.ScriptTitles".toList]:=by kernel_rfl
theorem strips:stripLifts liftWords (["cut".toList,"at".toList,"transclude/trclaw44.ScriptParses".toList,"transclude/trclaw44.ScriptFormats".toList,"transclude/trclaw44.ScriptBack".toList,"transclude/trclaw44.ScriptLines".toList,"transclude/trclaw44.ScriptWrong".toList,"transclude/trclaw44.ScriptTitles".toList])=([],["cut".toList,"at".toList,"transclude/trclaw44.ScriptParses".toList,"transclude/trclaw44.ScriptFormats".toList,"transclude/trclaw44.ScriptBack".toList,"transclude/trclaw44.ScriptLines".toList,"transclude/trclaw44.ScriptWrong".toList,"transclude/trclaw44.ScriptTitles".toList]):=by kernel_rfl
theorem mayEnter_yes:Tryz.prog.mayEnter=true:=by
 unfold Program.mayEnter
 rw [headWords]
 simp only [strips,laysLater_no,bearsReflect_no,doorFits_nil]
 simp
end Go.Ev
