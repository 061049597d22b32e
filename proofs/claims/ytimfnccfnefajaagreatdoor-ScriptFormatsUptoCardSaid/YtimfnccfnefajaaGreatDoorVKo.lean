/- A part of the proof: KB -/
import Derived.Test.YtimfnccfnefajaaGreatDoorVKn
import Derived.Test.YtimfnccfnefajaaGreatDoorVWk
import Derived.Test.YtimfnccfnefajaaGreatDoorVWl
set_option linter.unusedSimpArgs false
set_option linter.unusedVariables false
namespace Go.Proofs.YtimfnccfnefajaaGreatDoor
open Go Go.Ev Go.ChangeShapes Go.WideShapes Go.ChangeAt Go.RowKit Go.Proofs
set_option maxRecDepth 100000
theorem size0:(begin Tryz.prog (fun _ _=>0) default).world.heap.size=17:=by kernel_rfl
theorem size17 {W:World} (h:W.ShapedOpen Tryz.prog):17≤W.heap.size:=by
 obtain ⟨o,_,h1,_⟩:=h.2 16 (by rw [glsz];decide) (by rw [size0];decide)
 exact (Array.getElem?_eq_some_iff.1 h1).1
theorem pow_mem:("internal/strconv.uint64pow10",Rows.laid_internal_strconv_uint64pow10)∈laidT:=List.mem_of_getElem? (i:=2) (by kernel_rfl)
theorem pow_tab:(Rows.laid_internal_strconv_uint64pow10:DataW Unit)=Lib.tabData .u64 Lib.pow10Tab:=by kernel_rfl
theorem pow_ty:Tryz.prog.underlying (typeAt 3)=some (.array 20 67):=by kernel_rfl
theorem pow_el:Tryz.prog.underlying 67=some (.int .u64):=by kernel_rfl
theorem pow_c1:Tryz.prog.cellsOf 67=1:=by kernel_rfl
theorem pow_c2:Tryz.prog.cellsOf (typeAt 3)=20:=by kernel_rfl
theorem ty_at {g:Nat} {t:TypeId} (h:(Tryz.prog.globals[g]?).map (·.type)=some t):t=typeAt g:=by unfold typeAt;rw [h];rfl
theorem tab_is {W:World} (hl:laidMet Tryz.prog laidT W):Lib.TabIs Tryz.prog W "internal/strconv.uint64pow10" .u64 Lib.pow10Tab:=by
 obtain ⟨ps,hv,_⟩:=hl
 obtain ⟨g,t,cs,fuel,p,h1,h2,h3,h4⟩:=laid_mem hv pow_mem
 obtain rfl:3=g:=Option.some.inj (pow10_at.symm.trans h1)
 obtain rfl:=ty_at h2
 rw [pow_tab] at h4
 have h5:=Lib.cells_of_tab pow_ty pow_el pow_c1 pow_c2 h4
 unfold Lib.TabIs
 rw [h3,← h5]
theorem trod_iface {H:Type} {enc:TypeId×Value→H} {P:Program} {w:World} {base:Nat} {sp:Nat→Bool} {fuel:Nat} {t:TypeId} {ms:Array (String×TypeId)} {cs:List Value} {tn:String} {d:DataW H} {p:List MemPlace}
 (ht:P.underlying t=some (.interface ms)) (h:DataW.trod enc P w base sp false fuel t cs=some (.iface tn d,p)):∃ u v,cs=[.iface u v]:=by
 cases fuel with
 | zero=>simp [DataW.trod] at h
 | succ fuel =>
  match cs with
  | []=>simp [DataW.trod,ht] at h
  | [.iface u v]=>exact ⟨u,v,rfl⟩
  | [.nilIface]=>simp [DataW.trod,ht] at h
  | [.bool _] | [.int _ _] | [.string _] | [.float _ _] | [.complex _ _ _] | [.pointer _] | [.slice _ _ _] | [.agg _] | [.tuple _]=>simp [DataW.trod,ht] at h
  | a :: b :: r=>simp [DataW.trod,ht] at h
  | [x]=>cases x <;> first | exact ⟨_,_,rfl⟩ | (simp [DataW.trod,ht] at h;done)
theorem iface_at {W:World} (hl:laidMet Tryz.prog laidT W) {nm:String} {g:Nat} {tn:String} {d:DataW Unit} {ms:Array (String×TypeId)} (hn:(nm,.iface tn d)∈laidT) (hg:Tryz.prog.globalNamed nm=some g) (hu:Tryz.prog.underlying (typeAt g)=some (.interface ms)):IfaceAt W g:=by
 obtain ⟨ps,hv,_⟩:=hl
 obtain ⟨g',t,cs,fuel,p,h1,h2,h3,h4⟩:=laid_mem hv hn
 obtain rfl:g=g':=Option.some.inj (hg.symm.trans h1)
 obtain rfl:=ty_at h2
 obtain ⟨u,v,h5⟩:=trod_iface hu h4
 refine ⟨.iface u v,?_,.inr ⟨u,v,rfl⟩⟩
 exact World.var?_cell hg h3 0 |>.trans (by rw [← Array.getElem?_toList,h5];rfl)
theorem aw_of {W:World} (hsh:W.ShapedOpen Tryz.prog) (hl:laidMet Tryz.prog laidT W) (W':World) (hb:Below W.heap.size W W'):Calls Tryz.prog 9 #[] W' (RetB (.bool true) W'):=by
 obtain ⟨m,hm,hK⟩:=laid_rd hsh hl
 have h17:=size17 hsh
 refine (awake_any (m:=m) (w:=W') hcT (by have:=hb.size;omega) fun n o hn=>?_).mono fun e w' he=>⟨he.1,below_of he.2⟩
 obtain ⟨h1,h2,h3,h4⟩:=hK ρ0 (fun g _=>rfl) n o hn
 exact ⟨h1,h2 D0,h3.move (h2 D0) rfl (fun _ _=>rfl) (hb.block _ (by show n<_;omega))⟩
theorem syn_mem:(("strconv.ErrSyntax",Rows.laid_strconv_ErrSyntax):String×DataW Unit)∈laidT:=List.mem_of_getElem? (i:=5) (by kernel_rfl)
theorem rng_mem:(("strconv.ErrRange",Rows.laid_strconv_ErrRange):String×DataW Unit)∈laidT:=List.mem_of_getElem? (i:=4) (by kernel_rfl)
theorem syn_at:Tryz.prog.globalNamed "strconv.ErrSyntax"=some 7:=by kernel_rfl
theorem rng_at:Tryz.prog.globalNamed "strconv.ErrRange"=some 8:=by kernel_rfl
def isIf (d:Option TypeDesc):Bool:=match d with
 | some (.interface _)=>true
 | _=>false
theorem isIf_some {d:Option TypeDesc} (h:isIf d=true):∃ ms,d=some (.interface ms):=by
 unfold isIf at h
 split at h
 ·exact ⟨_,rfl⟩
 ·cases h
theorem err7:isIf (Tryz.prog.underlying (typeAt 7))=true:=by kernel_rfl
theorem err8:isIf (Tryz.prog.underlying (typeAt 8))=true:=by kernel_rfl
theorem gln_of {W:World} (hsh:W.ShapedOpen Tryz.prog) (hl:laidMet Tryz.prog laidT W):GlN W:=by
 obtain ⟨m,hm,_⟩:=laid_rd hsh hl
 obtain ⟨m7,h7⟩:=isIf_some err7
 obtain ⟨m8,h8⟩:=isIf_some err8
 exact { size:=size17 hsh,max:=⟨m,hm⟩,syn:=iface_at hl syn_mem syn_at h7,rng:=iface_at hl rng_mem rng_at h8,tab:=tab_is hl }
theorem nums_of {H:Type} {enc:TypeId×Value→H} {W:World} {v:Value} {d:DataW H} {p:List MemPlace} (hv:v=.slice none 0 0∨∃ a len cap,v=.slice (some a) len cap∧a.spot=none) (h:DataW.Trod enc Tryz.prog W 0 (fun _=>true) true 22 v d p):∃ A m c,v=.slice A m c∧m≤9223372036854775807∧NumsA W A m:=by
 obtain ⟨fuel,hf⟩:=h
 rcases hv with rfl | ⟨a,len,cap,rfl,hs⟩
 ·exact ⟨none,0,0,rfl,Nat.zero_le _,fun j hj=>absurd hj (Nat.not_lt_zero _)⟩
 ·rcases open_ints u22 u3 (by kernel_rfl) hf with ⟨h1,_⟩ | ⟨a',len',cap',zs,h1,h2,h3,h4,h5,_,h6,h7⟩
  ·cases h1
  ·have h1':[Value.slice (some a) len cap]=[Value.slice (some a') len' cap']:=h1
   simp only [List.cons.injEq,Value.slice.injEq,Option.some.injEq,and_true] at h1'
   obtain ⟨rfl,rfl,rfl⟩:=h1'
   rw [if_pos rfl] at h5
   refine ⟨some a,len,cap,rfl,by unfold maxLen at h4;omega,fun j hj=>?_⟩
   have hc:=h6 j (by omega)
   have hm:zs.getD j 0∈zs:=by
    rw [List.getD_eq_getElem?_getD,List.getElem?_eq_getElem (show j<zs.length by omega)]
    exact List.getElem_mem _
   have hw:=h7 _ hm
   simp only [Lit.wf,Bool.and_eq_true,decide_eq_true_eq] at hw
   have hb:=World.block_lt_of_cell? W _ hc
   rw [add_block] at hb
   exact ⟨a,_,rfl,hb,hc,hw.1,hw.2⟩
end Go.Proofs.YtimfnccfnefajaaGreatDoor
