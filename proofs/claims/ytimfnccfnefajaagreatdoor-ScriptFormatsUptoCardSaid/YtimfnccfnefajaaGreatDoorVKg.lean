/- A part of the proof: KLaid -/
import Derived.Test.YtimfnccfnefajaaGreatDoorVKf
import Derived.Test.YtimfnccfnefajaaGreatDoorVEvJ
import Derived.Test.YtimfnccfnefajaaGreatDoorRows
set_option linter.unusedSimpArgs false
set_option linter.unusedVariables false
namespace Go.Ev
open Go.Proofs
section
set_option maxRecDepth 100000
noncomputable def laidT:List (String×DataW Unit):=YtimfnccfnefajaaGreatDoor.Rows.scriptTitlesRow.laid
noncomputable def nameAt (k:Nat):String:=(laidT[k]?.map (·.1)).getD ""
noncomputable def typeAt (g:Nat):TypeId:=((Tryz.prog.globals[g]?).map (·.type)).getD 0
noncomputable def nmsT:List (Nat×String×TypeId):=[(0,8),(1,7),(3,2),(4,10),(5,3),(6,9),(9,6),(10,0),(11,1)].map fun p=>(p.1,nameAt p.2,typeAt p.1)
theorem kFitsLaid:lall (laidFits Tryz.prog laidT nmsT) kRest=true:=by kernel_rfl
theorem shape2:((begin Tryz.prog (fun _ _=>0) default).world.heap[2]?).bind Obj.row? = some (#[.int .i64 0],3):=by kernel_rfl
theorem shape2e:shapeE Tryz.prog 2=some 3:=by kernel_rfl
theorem glt {g:Nat} (h:g<12):g<Tryz.prog.globals.size:=by rw [glsz];exact h
theorem laid_rd {W:World} (hsh:W.ShapedOpen Tryz.prog) (hl:laidMet Tryz.prog laidT W):∃ m,W.cell? ⟨2,0,none⟩=some (.int .i64 m)∧∀ ρ:Ren,(∀ g,g<12→ρ g=⟨g,0,0⟩)→∀ n o,(n,o)∈kList m→n<12∧(∀ D,o.inD D)∧Rd Tryz.prog ρ W n o∧n<W.heap.size:=by
 obtain ⟨m,hm⟩:=cell_of_shapedOpen_int (P:=Tryz.prog) (g:=2) (t:=3) (zero:=#[.int .i64 0]) (k:=.i64) hsh (glt (by decide)) shape2 rfl (by kernel_rfl) (by kernel_rfl) (by kernel_rfl)
 refine ⟨m,hm,fun ρ hρ n o hn=>?_⟩
 have hp:=fun D=>plain_inD ((lall_iff _ _).1 (plain_all m) (n,o) hn) D
 have h12:=(hp (fun _=>True)).1
 have hrd:Rd Tryz.prog ρ W n o:=by
  rw [kRest_eq] at hn
  rcases List.mem_cons.1 hn with hn | hn
  ·obtain ⟨rfl,rfl⟩:=Prod.mk.inj hn
   obtain ⟨cs,hcs⟩:=glob_cells hsh (glt (by decide)) shape2e
   have hc0:cs[0]? = some (.int .i64 m):=by
    have:=hm
    unfold World.cell? at this
    simp only [hcs] at this
    simpa using this
   have h0:=hρ 2 (by decide)
   refine ⟨cs,(0,0),by rw [h0];exact hcs,fun i v hi=>?_,by rw [h0];exact Nat.zero_mod _,?_⟩
   ·rw [h0]
    cases i with
    | zero =>
     obtain rfl:Go.Ev.AV.int .i64 m=v:=Option.some.inj hi
     exact hc0
    | succ i=>cases hi
   ·rw [h0]
    have:=(Array.getElem?_eq_some_iff.1 hc0).1
    simp only [List.length_cons,List.length_nil]
    omega
  ·exact laidFits_rd hsh hl ((lall_iff _ _).1 kFitsLaid (n,o) hn) (hρ n h12)
 refine ⟨h12,fun D=>(hp D).2,hrd,?_⟩
 have hb:∃ x,W.heap[n]? = some x:=by
  have h0:=hρ n h12
  cases o with
  | cells vs e f sh =>
   obtain ⟨c,fr,h1,_⟩:=hrd
   rw [h0] at h1
   exact ⟨_,h1⟩
  | map es clock =>
   have h1:W.heap[(ρ n).blk]? = _:=hrd
   rw [h0] at h1
   exact ⟨_,h1⟩
  | siter s pos =>
   obtain ⟨h1,_⟩:=hrd
   rw [h0] at h1
   exact ⟨_,h1⟩
 obtain ⟨x,hx⟩:=hb
 exact (Array.getElem?_eq_some_iff.1 hx).1
end
end Go.Ev
