/- A part of the proof: Ma -/
import Derived.Test.YtimfnccfnefajaaGreatDoorVRh
import Derived.Test.YtimfnccfnefajaaGreatDoorVWn
import Derived.Test.YtimfnccfnefajaaGreatDoorVWb
set_option linter.unusedSimpArgs false
set_option linter.unusedVariables false
namespace Go.Proofs
open Go.RowKit Go.Sp
structure MdT (ls:List Bs) (k:Nat):Prop where
 all:∀ l∈ls,MadeLine l
 len:ls.length≤2 * k
 size:(lns ls).length≤2700 * k
theorem MdT.nil:MdT [] 0:=⟨fun l h=>by (cases h),Nat.le_refl _,Nat.le_refl _⟩
theorem lns_snoc (ls:List Bs) (l:Bs):lns (ls ++ [l])=lns ls ++ l ++ [10]:=by rw [lns_app,List.append_assoc];simp [lns]
theorem MdT.line {ls:List Bs} {k:Nat} (h:MdT ls k) {l:Bs} (hl:MadeLine l) (hs:l.length≤2661):MdT (ls ++ [l]) (k+1):=by
 have h1:=h.len
 have h2:=h.size
 refine ⟨fun x hx=>?_,by rw [List.length_append,List.length_singleton];omega,by rw [lns_snoc,List.length_append,List.length_append,List.length_singleton];omega⟩
 rcases List.mem_append.1 hx with hx | hx
 ·exact h.all x hx
 ·rw [List.mem_singleton.1 hx];exact hl
theorem MdT.note {ls:List Bs} {k:Nat} (h:MdT ls k) {l:Bs} (hl:MadeLine l) (hs:l.length≤2661):MdT (ls ++ [l] ++ [aNote]) (k+1):=by
 have h1:=h.len
 have h2:=h.size
 have ha:aNote.length=8:=rfl
 refine ⟨fun x hx=>?_,by rw [List.length_append,List.length_append,List.length_singleton,List.length_singleton];omega,by rw [lns_snoc,lns_snoc,List.length_append,List.length_append,List.length_append,List.length_append,List.length_singleton,ha];omega⟩
 rcases List.mem_append.1 hx with hx | hx
 ·exact (h.line hl hs).all x hx
 ·rw [List.mem_singleton.1 hx];exact .inr (.inl rfl)
theorem WrOk.small2 {x:Ev} (h:WrOk x):Small2 x:=⟨h.user,h.note,h.text,h.tN,h.oN,h.base,h.n,h.h3,h.ht⟩
theorem WrOk.evb {x:Ev} (h:WrOk x):EvB x:=⟨by have:=h.user;omega,by have:=h.note;omega,by have:=h.text;omega,by have:=h.tN;omega,by have:=h.oN;omega⟩
def RetMd (k:Nat) (w:World) (e:Ending) (w':World):Prop:=∃ ls,MdT ls k∧e=.returned (.string ⟨(lns ls).toArray⟩)∧Below w.heap.size w w'
theorem format_made {x:Ev} (hx:WrOk x) (A:Option Addr) (m c:Nat) (w:World) (base:Nat) (ho:w.ownsRow base 66 6 (.slice A m c) x.hist.length (hcells x.hist)):Calls Tryz.prog 27 #[evV x (.slice A m c)] w (fun e w'=>∃ (s:Bs) (v:Int),MadeLine s∧s.length≤2661∧e=.returned (.tuple #[.string ⟨s.toArray⟩,.int .i64 v])∧Below w.heap.size w w'):=by
 obtain ⟨rfl,hA⟩:=owns_rd ho
 have hs:=hx.small2
 refine (FormatR_ok x A c w hx.evb (by have:=hx.h3;omega) (fun i=>?_) hA (fun f hf=>by have:=textB_len2 hf hs;omega)).mono ?_
 ·unfold rv
  rw [List.getD_eq_getElem?_getD]
  cases hq:x.hist[i]? with
  | none=>show (0:Nat)<_;decide
  | some r =>
   have:=hx.ht r (List.mem_of_getElem? hq)
   show r.text.length<_
   omega
 ·rintro e w' ⟨hb,⟨s,h1,rfl⟩ | ⟨_,rfl⟩⟩
  ·obtain ⟨f,hf,h2,_⟩:=formatS_some h1
   exact ⟨s,0,.inr (.inr (.inr ⟨x,h1⟩)),by have:=text_len2 hf hs;rw [h2];omega,rfl,hb⟩
  ·exact ⟨[],7,.inl rfl,Nat.zero_le _,rfl,hb⟩
set_option maxRecDepth 100000 in
set_option maxHeartbeats 8000000 in
theorem made_ok (A:Option Addr) (m c N:Nat) (w:World) (hm:m≤9223372036854775807) (hl:NumsA w A m) (hN:N≤7):Calls Tryz.prog 10 #[.slice A m c,.int .i64 N] w (RetMd N w):=by
 have hF:=from_ok A m c w hm hl
 go_enter Tryz.func10,Tryz.ntmps10
 go_wp2_with (go_at_call 15;refine hF.mono ?_)
 rintro e W1 ⟨rfl,b1,hsrc⟩
 clear hF hl
 generalize hsb:w.heap.size=sb at *
 have HSB:=Lib.hid hsb
 clear hsb
 go_wp2
 go_loopw [1,6] (fun n t wr=>∃ (j:Nat) (ls:List Bs),j≤N∧n=.int .i64 j∧t=.string ⟨(lns ls).toArray⟩∧MdT ls (N - j)∧Below sb w wr∧SrcOk wr sb) (fun n _ _=>(intOf n).toNat)
 case atStart=>exact ⟨N,[],Nat.le_refl _,rfl,rfl,by rw [Nat.sub_self];exact MdT.nil,b1,hsrc⟩
 case round =>
  obtain ⟨j,ls,hj,rfl,rfl,hM,hB,hS⟩:=hrel
  by_cases hj0:0<j
  ·have hWr:=writable_ok sb wr hS
   have hs2:=hM.size
   have htl:(⟨(lns ls).toArray⟩:ByteArray).size≤18900:=by rw [lsize];omega
   generalize hlt:(⟨(lns ls).toArray⟩:ByteArray)=T at *
   have HLT:=Lib.hid hlt
   clear hlt hs2
   go_wp2_with (go_at_call 17;refine hWr.mono ?_)
   rintro e W2 ⟨x,A1,m1,c1,hx,rfl,hG,ho⟩
   have hB2:=hB.trans hG.below
   have hS2:=hG.src
   clear hWr hG hS hB
   have hFo:=format_made hx A1 m1 c1 W2 _ ho
   clear ho hx
   unfold evV ecells at *
   go_wp2_with (go_at_call 27;refine hFo.mono ?_)
   rintro e W3 ⟨sx,vx,hsx,hsl,rfl,b3⟩
   have hS3:=hS2.below b3
   have hB3:=hB2.trans (b3.mono (Nat.le_of_lt hS2.lt))
   have hN6:=next_ok 6 sb W3 (by decide) (by decide) hS3
   clear hFo b3 hS2 hB2
   have hxl:(⟨sx.toArray⟩:ByteArray).size≤2661:=hsl
   have hc1:T ++ ⟨sx.toArray⟩ ++ ⟨#[10]⟩=⟨(lns (ls ++ [sx])).toArray⟩:=by
    rw [← HLT.out,lns_snoc,cat_eq];exact cat_eq (lns ls ++ sx) [10]
   have hc2:T ++ ⟨sx.toArray⟩ ++ ⟨#[10]⟩ ++ ⟨#[35,32,97,32,110,111,116,101,10]⟩=⟨(lns (ls ++ [sx] ++ [aNote])).toArray⟩:=by
    rw [hc1,lns_snoc (ls ++ [sx]),List.append_assoc];exact cat_eq (lns (ls ++ [sx])) (aNote ++ [10])
   have hM1:=hM.line hsx hsl
   have hM2:=hM.note hsx hsl
   have HC1:=Lib.hid hc1
   have HC2:=Lib.hid hc2
   have HM1:=Lib.hid hM1
   have HM2:=Lib.hid hM2
   clear hc1 hc2 hM1 hM2 hM hsl
   generalize (⟨sx.toArray⟩:ByteArray)=X at *
   change Calls _ _ #[_,.int .i64 6] _ _ at hN6
   go_wp2_with (go_at_call 28;refine hN6.mono ?_)
   rintro e W4 ⟨k,hk,rfl,hG4⟩
   have hS4:=hG4.src
   have hB4:=hB3.trans hG4.below
   clear hN6 hG4 hS3 hB3
   by_cases hk0:k=0
   ·have f1:((k:Int) == 0)=true:=by rw [hk0];rfl
    clear hk0
    go_wp2
    go_roundw
    case rel=>exact ⟨j - 1,_,by omega,by go_num,by rw [HC2.out],by rw [show N - (j - 1)=N - j+1 by omega];exact HM2.out,hB4,hS4⟩
    case measure=>simp [intOf];omega
   ·have f1:((k:Int) == 0)=false:=by rw [beq_eq_false_iff_ne];omega
    clear hk0
    go_wp2
    go_roundw
    case rel=>exact ⟨j - 1,_,by omega,by go_num,by rw [HC1.out],by rw [show N - (j - 1)=N - j+1 by omega];exact HM1.out,hB4,hS4⟩
    case measure=>simp [intOf];omega
  ·obtain rfl:j=0:=by omega
   have HM:=Lib.hid hM
   clear hM
   go_wp2
   go_ret
   exact ⟨ls,by have:=HM.out;rwa [Nat.sub_zero] at this,rfl,by rw [HSB.out];exact hB⟩
end Go.Proofs
