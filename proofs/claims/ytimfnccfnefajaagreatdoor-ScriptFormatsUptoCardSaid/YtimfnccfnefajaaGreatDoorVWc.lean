/- A part of the proof: Wa, Wb, Wc, Wd, We, Wf, Wg -/
import Derived.Test.YtimfnccfnefajaaGreatDoorVWa
import Derived.WalkKit
import Derived.BigCall
import Derived.Deep.QuietTactic
import Derived.BigQuiet
import Derived.Lib.Hide
import Derived.Test.YtimfnccfnefajaaGreatDoorVWb
import Derived.Lib.IndexAny
import Derived.Lib.ConvBytes
import Derived.Laws.IdiomStrings
import Derived.Lib.CutLaws
set_option linter.unusedSimpArgs false
set_option linter.unusedVariables false
namespace Go.Proofs
open Go.RowKit Go.Sp
theorem below_drewN {B:Nat} {a w:World} (h:Below B a w) (n:Nat):Below B a (w.drewN n):=⟨h.os,h.tape,h.output,h.size,h.block⟩
def RetB (v:Value) (w:World) (e:Ending) (w':World):Prop:=e=.returned v∧Below w.heap.size w w'
theorem size_len (s:ByteArray):s.size=s.data.toList.length:=rfl
theorem take_snoc (s:ByteArray) (k:Nat) (h:k<s.size):s.data.toList.take (k+1)=s.data.toList.take k ++ [s[k]]:=by
 rw [List.take_succ_eq_append_getElem (by simpa using h)];rfl
theorem escs_snoc (l:Bs) (c:UInt8):escs (l ++ [c])=escs l ++ esc c:=by simp [escs]
theorem esc_len (c:UInt8):(esc c).length≤2:=by
 unfold esc
 repeat' split
 all_goals simp
theorem beq_t {c:UInt8} {n:Nat} (h:((c.toNat:Int) == (n:Int))=true):c=UInt8.ofNat n:=by
 have:(c.toNat:Int)=n:=by simpa using h
 have:c.toNat=n:=by omega
 rw [← this,UInt8.ofNat_toNat]
theorem beq_f {c d:UInt8} {n:Nat} (h:((c.toNat:Int) == (n:Int))=false) (hd:d.toNat=n):c≠d:=by
 rintro rfl
 rw [hd] at h
 simp at h
theorem esc_32 {c:UInt8} (h:((c.toNat:Int) == 32)=true):esc c=[95]:=by rw [beq_t h];rfl
theorem esc_10 {c:UInt8} (h:((c.toNat:Int) == 10)=true):esc c=[126,110]:=by rw [beq_t h];rfl
theorem esc_95 {c:UInt8} (h:((c.toNat:Int) == 95)=true):esc c=[126,117]:=by rw [beq_t h];rfl
theorem esc_126 {c:UInt8} (h:((c.toNat:Int) == 126)=true):esc c=[126,116]:=by rw [beq_t h];rfl
theorem esc_no {c:UInt8} (h1:((c.toNat:Int) == 32)=false) (h2:((c.toNat:Int) == 10)=false) (h3:((c.toNat:Int) == 95)=false) (h4:((c.toNat:Int) == 126)=false):esc c=[c]:=by
 unfold esc
 rw [if_neg (beq_f h1 rfl),if_neg (beq_f h2 rfl),if_neg (beq_f h3 rfl),if_neg (beq_f h4 rfl)]
theorem escs_len (l:Bs):(escs l).length≤2 * l.length:=by
 induction l with
 | nil=>simp [escs]
 | cons a l ih =>
  have:=esc_len a
  simp only [escs,List.flatMap_cons,List.length_append,List.length_cons] at ih ⊢
  omega
def WriteRel (s:ByteArray) (w wr:World) (k:Nat):Prop:=Lib.IsBuilder 135 5 w.heap.size w.heap.size (Lib.byteCells (escs (s.data.toList.take k))) wr∧Below w.heap.size w wr
theorem WriteRel.step {s:ByteArray} {w wr W1:World} {k:Nat} {p:Value} {bs:Bs} (h:WriteRel s w wr k) (hk:k<s.size) (he:esc s[k]=bs) (h1:Lib.BuilderAt 135 5 w.heap.size w.heap.size p (Lib.byteCells (escs (s.data.toList.take k)) ++ Lib.byteCells bs) W1) (hp:p=.pointer (some ⟨w.heap.size,0,none⟩)) (h2:Below w.heap.size wr W1):WriteRel s w W1 (k+1):=by
 subst hp
 refine ⟨.inr ?_,h.2.trans h2⟩
 rw [take_snoc s k hk,escs_snoc,he,Lib.byteCells_append]
 exact h1
theorem WriteRel.len {s:ByteArray} {w wr:World} {k:Nat} (_:WriteRel s w wr k):(Lib.byteCells (escs (s.data.toList.take k))).length≤2 * k:=by
 rw [Lib.byteCells_length]
 have h1:=escs_len (s.data.toList.take k)
 have h2:(s.data.toList.take k).length≤k:=List.length_take_le _ _
 omega
theorem WriteRel.size {s:ByteArray} {w wr:World} {k:Nat} (h:WriteRel s w wr k):w.heap.size≤wr.heap.size:=h.2.size
set_option maxHeartbeats 2000000 in
theorem write_ok (s:ByteArray) (w:World) (hs:s.size≤35184372088832):Calls Tryz.prog 39 #[.string s] w (RetB (.string ⟨(wr s.data.toList).toArray⟩) w):=by
 by_cases h1:s.data.toList=[]
 ·have e1:s.toList.isEmpty=true:=by rw [ByteArray.toList_eq,h1];rfl
  have hw:wr s.data.toList=[45]:=by rw [h1];rfl
  have HW:=Lib.hid hw;clear hw h1
  go_enter Tryz.func39,Tryz.ntmps39
  go_wp2
  go_ret
  exact ⟨by rw [HW.out];rfl,Below.refl _ _⟩
 ·have e1:s.toList.isEmpty=false:=by
   rw [ByteArray.toList_eq]
   cases hl:s.data.toList with
   | nil=>exact absurd hl h1
   | cons _ _=>rfl
  by_cases h2:s.data.toList=[45]
  ·have e2:(s.toList == [45])=true:=by rw [ByteArray.toList_eq,h2];rfl
   have hw:wr s.data.toList=[126,109]:=by rw [h2];rfl
   have HW:=Lib.hid hw;clear hw h1 h2
   go_enter Tryz.func39,Tryz.ntmps39
   go_wp2
   go_ret
   exact ⟨by rw [HW.out];rfl,Below.refl _ _⟩
  ·have e2:(s.toList == [45])=false:=by rw [ByteArray.toList_eq];simpa using h2
   have hw:wr s.data.toList=escs s.data.toList:=by unfold wr;rw [if_neg h1,if_neg h2]
   have HW:=Lib.hid hw;clear hw h1 h2
   go_enter Tryz.func39,Tryz.ntmps39
   go_wp2
   go_loopw [4] (fun i wr=>∃ k:Nat,k≤s.size∧i=.int .i64 k∧WriteRel s w wr k) (fun i _=>s.size - (intOf i).toNat)
   case atStart=>exact ⟨0,Nat.zero_le _,rfl,Lib.fresh_isBuilder 135 5 w,(Below.refl _ w).alloc (Nat.le_refl _) _⟩
   case round =>
    obtain ⟨k,hk,rfl,hR⟩:=hrel
    have hl:=hR.len
    have hz:=hR.size
    by_cases hlt:k<s.size
    ·go_wp2_with (first
      | (go_at_call 59;refine (Tryz.Builder_WriteByte w.heap.size w.heap.size _ _ _ hR.1 (by omega) hz).mono ?_)
      | (go_at_call 60;refine (Tryz.Builder_WriteString w.heap.size w.heap.size _ _ _ hR.1 (by simp [ByteArray.size];omega) hz).mono ?_))
     ·rintro e W1 ⟨rfl,h1,b1⟩
      go_wp2
      go_roundw
      case rel=>exact ⟨k+1,by omega,by go_num,hR.step hlt (esc_32 (by assumption)) h1 rfl b1⟩
      case measure=>simp [intOf];omega
     ·rintro e W1 ⟨rfl,h1,b1⟩
      go_wp2
      go_roundw
      case rel=>exact ⟨k+1,by omega,by go_num,hR.step hlt (esc_10 (by assumption)) h1 rfl b1⟩
      case measure=>simp [intOf];omega
     ·rintro e W1 ⟨rfl,h1,b1⟩
      go_wp2
      go_roundw
      case rel=>exact ⟨k+1,by omega,by go_num,hR.step hlt (esc_95 (by assumption)) h1 rfl b1⟩
      case measure=>simp [intOf];omega
     ·rintro e W1 ⟨rfl,h1,b1⟩
      go_wp2
      go_roundw
      case rel=>exact ⟨k+1,by omega,by go_num,hR.step hlt (esc_126 (by assumption)) h1 rfl b1⟩
      case measure=>simp [intOf];omega
     ·rintro e W1 ⟨rfl,h1,b1⟩
      go_wp2
      go_roundw
      case rel=>exact ⟨k+1,by omega,by go_num,hR.step hlt (esc_no (by assumption) (by assumption) (by assumption) (by assumption)) h1 rfl b1⟩
      case measure=>simp [intOf];omega
    ·go_wp2_with (go_at_call 61;refine (Tryz.Builder_String_any w.heap.size w.heap.size _ _ hR.1 hz).mono ?_)
     rintro e W1 ⟨rfl,b1⟩
     go_wp2
     go_ret
     exact ⟨by rw [HW.out,List.take_of_length_le (by rw [← size_len];omega)];rfl,hR.2.trans b1⟩
end Go.Proofs
namespace Go.Proofs
open Go.RowKit Go.Sp
theorem escaped_ok (c:UInt8) (w:World):Calls Tryz.prog 158 #[.int .u8 (c.toNat:Int)] w fun e w'=>e=.returned (.tuple #[.int .u8 (((unesc c).getD 0).toNat:Int),.bool (unesc c).isSome])∧w'=w:=by
 by_cases h1:c=110
 ·subst h1
  go_enter Tryz.func158,Tryz.ntmps158
  go_wp2
  go_ret2
  exact ⟨rfl,rfl⟩
 by_cases h2:c=117
 ·subst h2
  go_enter Tryz.func158,Tryz.ntmps158
  go_wp2
  go_ret2
  exact ⟨rfl,rfl⟩
 by_cases h3:c=116
 ·subst h3
  go_enter Tryz.func158,Tryz.ntmps158
  go_wp2
  go_ret2
  exact ⟨rfl,rfl⟩
 have hu:unesc c=none:=by unfold unesc;rw [if_neg h1,if_neg h2,if_neg h3]
 have f:∀ (d:UInt8),c≠d→((c.toNat:Int) == (d.toNat:Int))=false:=by
  intro d hd
  simp only [beq_eq_false_iff_ne,ne_eq]
  intro h
  exact hd (UInt8.toNat_inj.1 (by omega))
 have f1:((c.toNat:Int) == 110)=false:=f 110 h1
 have f2:((c.toNat:Int) == 117)=false:=f 117 h2
 have f3:((c.toNat:Int) == 116)=false:=f 116 h3
 have HU:=Lib.hid hu;clear hu f h1 h2 h3
 go_enter Tryz.func158,Tryz.ntmps158
 go_wp2
 go_ret2
 exact ⟨by rw [HU.out];rfl,rfl⟩
def readS (w:Bs):Bs×Bool:=if w=[45] then ([],true) else if w=[126,109] then ([45],true) else match dec (some [126]) w with
 | none=>([],false)
 | some b=>(b,decide (wr b=w))
def ReadRel (s:ByteArray) (w wr:World) (k:Nat):Prop:=∃ acc:Bs,Lib.IsBuilder 135 5 w.heap.size w.heap.size (Lib.byteCells acc) wr∧Below w.heap.size w wr∧acc.length≤k∧dec (some [126]) s.data.toList=(dec (some [126]) (s.data.toList.drop k)).map (acc ++ ·)
theorem drop_one (s:ByteArray) (k:Nat) (h:k<s.size):s.data.toList.drop k=s[k] :: s.data.toList.drop (k+1):=List.drop_eq_getElem_cons (by simpa using h)
theorem read_plain {s:ByteArray} {k:Nat} {acc:Bs} (h:dec (some [126]) s.data.toList=(dec (some [126]) (s.data.toList.drop k)).map (acc ++ ·)) (hk:k<s.size) (hc:s[k]≠126∨s.size≤k+1) :
 dec (some [126]) s.data.toList=(dec (some [126]) (s.data.toList.drop (k+1))).map ((acc ++ [if s[k]=95 then 32 else s[k]]) ++ ·):=by
 have e:dec (some [126]) (s.data.toList.drop k)=(dec (some [126]) (s.data.toList.drop (k+1))).map ((if s[k]=95 then 32 else s[k]) :: ·):=by
  rw [drop_one s k hk]
  by_cases h1:s[k]=126
  ·have h2:s.size≤k+1:=hc.resolve_left (fun h=>h h1)
   rw [List.drop_of_length_le (by rw [← size_len];exact h2),h1]
   rfl
  ·exact dec_plain _ h1 _
 rw [h,e,Option.map_map]
 congr 1
 funext x
 simp
theorem read_tilde {s:ByteArray} {k:Nat} {acc:Bs} (h:dec (some [126]) s.data.toList=(dec (some [126]) (s.data.toList.drop k)).map (acc ++ ·)) (hk:k+1<s.size) (hc:s[k]=126) :
 dec (some [126]) s.data.toList=(unesc s[k+1]).bind fun y=>(dec (some [126]) (s.data.toList.drop (k+2))).map ((acc ++ [y]) ++ ·):=by
 rw [h,drop_one s k (by omega),drop_one s (k+1) hk,hc,dec_tilde]
 cases unesc s[k+1] with
 | none=>rfl
 | some y =>
  simp only [Option.bind_some,Option.map_map]
  congr 1
  funext x
  simp
end Go.Proofs
namespace Go.Proofs
open Go.RowKit Go.Sp
def RetR (w:Bs) (W:World) (e:Ending) (W':World):Prop:=e=.returned (.tuple #[.string ⟨(readS w).1.toArray⟩,.bool (readS w).2])∧Below W.heap.size W W'
theorem beq_no {c d:UInt8} (h:c≠d):((c.toNat:Int) == (d.toNat:Int))=false:=by
 simp only [beq_eq_false_iff_ne,ne_eq]
 intro e
 exact h (UInt8.toNat_inj.1 (by omega))
theorem ReadRel.step {s:ByteArray} {w wr W1:World} {k j:Nat} {p:Value} {acc:Bs} {c:UInt8} (hb:Below w.heap.size w wr) (hl:acc.length≤k) (hj:k<j) (hd:dec (some [126]) s.data.toList=(dec (some [126]) (s.data.toList.drop j)).map ((acc ++ [c]) ++ ·))
 (h1:Lib.BuilderAt 135 5 w.heap.size w.heap.size p (Lib.byteCells acc ++ [.int .u8 (c.toNat:Int)]) W1) (hp:p=.pointer (some ⟨w.heap.size,0,none⟩)) (h2:Below w.heap.size wr W1):ReadRel s w W1 j:=by
 subst hp
 refine ⟨acc ++ [c],.inr ?_,hb.trans h2,by simp;omega,hd⟩
 rw [Lib.byteCells_append]
 exact h1
set_option maxHeartbeats 4000000 in
theorem read_ok (s:ByteArray) (w:World) (hs:s.size≤35184372088832):Calls Tryz.prog 96 #[.string s] w (RetR s.data.toList w):=by
 by_cases h1:s.data.toList=[45]
 ·have e1:(s.toList == [45])=true:=by rw [ByteArray.toList_eq,h1];rfl
  have hw:readS s.data.toList=([],true):=by rw [h1];rfl
  have HW:=Lib.hid hw;clear hw h1
  go_enter Tryz.func96,Tryz.ntmps96
  go_wp2
  go_ret2
  exact ⟨by rw [HW.out];rfl,Below.refl _ _⟩
 ·have e1:(s.toList == [45])=false:=by rw [ByteArray.toList_eq];simpa using h1
  by_cases h2:s.data.toList=[126,109]
  ·have e2:(s.toList == [126,109])=true:=by rw [ByteArray.toList_eq,h2];rfl
   have hw:readS s.data.toList=([45],true):=by rw [h2];rfl
   have HW:=Lib.hid hw;clear hw h1 h2
   go_enter Tryz.func96,Tryz.ntmps96
   go_wp2
   go_ret2
   exact ⟨by rw [HW.out];rfl,Below.refl _ _⟩
  ·have e2:(s.toList == [126,109])=false:=by rw [ByteArray.toList_eq];simpa using h2
   have hw:readS s.data.toList=match dec (some [126]) s.data.toList with
    | none=>([],false)
    | some b=>(b,decide (wr b=s.data.toList)):=by unfold readS;rw [if_neg h1];exact if_neg h2
   have HW:=Lib.hid hw;clear hw h1 h2
   go_enter Tryz.func96,Tryz.ntmps96
   go_wp2
   go_loopw [5] (fun i wr=>∃ k:Nat,k≤s.size∧i=.int .i64 k∧ReadRel s w wr k) (fun i _=>s.size - (intOf i).toNat)
   case atStart=>exact ⟨0,Nat.zero_le _,rfl,[],Lib.fresh_isBuilder 135 5 w,(Below.refl _ w).alloc (Nat.le_refl _) _,Nat.le_refl _,by simp⟩
   case round =>
    obtain ⟨k,hk,rfl,acc,hI,hB,hl,hd⟩:=hrel
    have HD:=Lib.hid hd;clear hd
    have hz:=hB.size
    have hlc:(Lib.byteCells acc).length+1≤140737488355328:=by rw [Lib.byteCells_length];omega
    by_cases hlt:k<s.size
    ·by_cases hc:s[k]=95
     ·have f1:((s[k].toNat:Int) == 95)=true:=by rw [hc];rfl
      have hp:=read_plain HD.out hlt (.inl (by rw [hc];decide))
      rw [if_pos hc] at hp
      have HP:=Lib.hid hp;clear hp hc
      go_wp2_with (go_at_call 59;refine (Tryz.Builder_WriteByte w.heap.size w.heap.size _ _ _ hI hlc hz).mono ?_)
      rintro e W1 ⟨rfl,b1,b2⟩
      go_wp2
      go_roundw
      case rel=>exact ⟨k+1,by omega,by go_num,ReadRel.step hB hl (Nat.lt_succ_self k) HP.out b1 rfl b2⟩
      case measure=>simp [intOf];omega
     ·have f1:((s[k].toNat:Int) == 95)=false:=beq_no hc
      by_cases ht:s[k]=126∧k+1<s.size
      ·obtain ⟨ht,hlt2⟩:=ht
       have f2:((s[k].toNat:Int) == 126)=true:=by rw [ht];rfl
       have hp:=read_tilde HD.out hlt2 ht
       cases hu:unesc s[k+1] with
       | none =>
        have hesc:=fun w=>escaped_ok s[k+1] w
        rw [hu] at hesc hp
        have HP:=Lib.hid hp;clear hp hc ht hu
        go_wp2_with (go_at_call 158;refine (hesc _).mono ?_)
        rintro e W1 ⟨rfl,rfl⟩
        go_wp2
        go_ret2
        exact ⟨by rw [HW.out,HP.out];rfl,hB⟩
       | some y =>
        have hesc:=fun w=>escaped_ok s[k+1] w
        rw [hu] at hesc hp
        have HP:=Lib.hid hp;clear hp hc ht hu
        go_wp2_with (first
         | (go_at_call 158;refine (hesc _).mono ?_)
         | (go_at_call 59;refine (Tryz.Builder_WriteByte w.heap.size w.heap.size _ _ _ hI hlc hz).mono ?_))
        rintro e W1 ⟨rfl,rfl⟩
        go_wp2_with (go_at_call 59;refine (Tryz.Builder_WriteByte w.heap.size w.heap.size _ _ _ hI hlc hz).mono ?_)
        rintro e W2 ⟨rfl,b1,b2⟩
        go_wp2
        go_roundw
        case rel=>exact ⟨k+2,by omega,by go_num,ReadRel.step hB hl (by omega) (c:=y) HP.out b1 rfl b2⟩
        case measure=>simp [intOf];omega
      ·have hp:=read_plain HD.out hlt (by rcases Nat.lt_or_ge (k+1) s.size with h | h;exact .inl (fun e=>ht ⟨e,h⟩);exact .inr h)
       rw [if_neg hc] at hp
       have HP:=Lib.hid hp;clear hp
       by_cases h126:s[k]=126
       ·have f2:((s[k].toNat:Int) == 126)=true:=by rw [h126];rfl
        have hge:¬ k+1<s.size:=fun h=>ht ⟨h126,h⟩
        clear ht hc h126
        go_wp2_with (go_at_call 59;refine (Tryz.Builder_WriteByte w.heap.size w.heap.size _ _ _ hI hlc hz).mono ?_)
        rintro e W2 ⟨rfl,b1,b2⟩
        go_wp2
        go_roundw
        case rel=>exact ⟨k+1,by omega,by go_num,ReadRel.step hB hl (by omega) HP.out b1 rfl b2⟩
        case measure=>simp [intOf];omega
       ·have f2:((s[k].toNat:Int) == 126)=false:=beq_no h126
        clear ht hc h126
        go_wp2_with (go_at_call 59;refine (Tryz.Builder_WriteByte w.heap.size w.heap.size _ _ _ hI hlc hz).mono ?_)
        rintro e W2 ⟨rfl,b1,b2⟩
        go_wp2
        go_roundw
        case rel=>exact ⟨k+1,by omega,by go_num,ReadRel.step hB hl (by omega) HP.out b1 rfl b2⟩
        case measure=>simp [intOf];omega
    ·have hend:dec (some [126]) s.data.toList=some acc:=by
      rw [HD.out,List.drop_of_length_le (by rw [← size_len];omega)]
      simp [dec]
     have hwr:=write_ok ⟨acc.toArray⟩
     have HE:=Lib.hid hend;clear hend
     go_wp2_with (go_at_call 61;refine (Tryz.Builder_String_any_f w.heap.size w.heap.size _ _ (.of hI) hz).mono ?_)
     rintro e W1 rfl g1 b1
     go_wp2_with (go_at_call 61;refine (Tryz.Builder_String_any_f w.heap.size w.heap.size _ _ g1 (Nat.le_trans hz b1.size)).mono ?_)
     rintro e W2 ⟨rfl,g2,b2⟩
     go_wp2_with (go_at_call 39;refine (hwr _ (by simp [ByteArray.size];omega)).mono ?_)
     rintro e W3 ⟨rfl,b3⟩
     go_wp2
     go_ret2
     refine ⟨?_,hB.trans (b1.trans (b2.trans (b3.mono (by have:=b1.size;have:=b2.size;omega))))⟩
     rw [HW.out,HE.out]
     have eb:(Sp.wr acc == s.toList)=decide (Sp.wr acc=s.data.toList):=by
      rw [ByteArray.toList_eq,Bool.eq_iff_iff]
      simp
     exact congrArg (fun b=>Ending.returned (.tuple #[.string ⟨acc.toArray⟩,.bool b])) eb
end Go.Proofs
namespace Go.Proofs
open Go.RowKit Go.Sp
theorem get_at (s:ByteArray) (k:Nat) (h:k<s.size):s.data.toList[k]? = some s[k]:=by rw [List.getElem?_eq_getElem (by simpa using h)];rfl
theorem byte_eq_iff (c d:UInt8):c=d↔(c.toNat:Int)=(d.toNat:Int):=by
 rw [← UInt8.toNat_inj]
 omega
theorem okAt_num (s:ByteArray) (k:Nat) (hk:k<s.size):okAt s.data.toList k=true↔32≤(s[k].toNat:Int)∧¬ (s[k].toNat:Int)=127∧Lib.indexByte [60,62,91,93,123,125,124,35,95] s[k]<0∧¬ ((s[k].toNat:Int)=32∧0<k∧(s[k - 1].toNat:Int)=32):=by
 have hp:(s.data.toList[k - 1]? == some 32)=decide ((s[k - 1].toNat:Int)=32):=by
  rw [get_at s (k - 1) (by omega),Bool.eq_iff_iff]
  have:=byte_eq_iff s[k - 1] 32
  simp [this]
 have h1:(s[k]<(32:UInt8))↔(s[k].toNat:Int)<32:=by
  rw [UInt8.lt_iff_toNat_lt]
  show s[k].toNat<32↔_
  omega
 have h2:=byte_eq_iff s[k] 127
 have h3:=byte_eq_iff s[k] 32
 have e:okAt s.data.toList k=(!badB s[k] && !(s[k] == 32 && decide (0<k) && s.data.toList[k - 1]? == some 32)):=by
  unfold okAt
  rw [get_at s k hk]
 rw [e,hp]
 unfold badB
 rw [Lib.contains_iff_indexByte]
 simp only [Bool.and_eq_true,Bool.not_eq_true',Bool.or_eq_false_iff,decide_eq_false_iff_not,beq_eq_false_iff_ne,ne_eq,Bool.and_eq_false_iff,h1,h2,h3]
 simp only [show ((127:UInt8).toNat:Int)=127 from rfl,show ((32:UInt8).toNat:Int)=32 from rfl]
 omega
theorem clean_no {s:ByteArray} {k:Nat} (hk:k<s.size) (h:okAt s.data.toList k=false):cleanB s.data.toList=false:=by
 unfold cleanB
 rw [← Bool.not_eq_true,List.all_eq_true]
 intro h2
 have:=h2 k (List.mem_range.2 (by rw [← size_len];exact hk))
 rw [h] at this
 cases this
theorem clean_yes {s:ByteArray} (h:∀ j,j<s.size→okAt s.data.toList j=true):cleanB s.data.toList=true:=by
 unfold cleanB
 rw [List.all_eq_true]
 exact fun j hj=>h j (by rw [size_len];exact List.mem_range.1 hj)
set_option maxHeartbeats 2000000 in
theorem clean_ok (s:ByteArray) (w:World) (hs:s.size≤35184372088832):Calls Tryz.prog 217 #[.string s] w fun e w'=>e=.returned (.bool (cleanB s.data.toList))∧w'=w:=by
 go_enter Tryz.func217,Tryz.ntmps217
 go_wp2
 go_loop [3] (fun i=>∃ k:Nat,k≤s.size∧i=.int .i64 k∧∀ j,j<k→okAt s.data.toList j=true) (fun i=>s.size - (intOf i).toNat)
 case atStart=>exact ⟨0,Nat.zero_le _,rfl,fun _ h=>by omega⟩
 case round =>
  obtain ⟨k,hk,rfl,hok⟩:=hrel
  have HOK:=Lib.hid hok;clear hok
  by_cases hlt:k<s.size
  ·have HN:=Lib.hid (okAt_num s k hlt)
   go_wp2_with (go_at_call 344;refine (Tryz.strings_IndexByte _ _ _).mono ?_;rintro e w' ⟨rfl,rfl⟩)
   all_goals first
    | (go_ret
       refine ⟨?_,rfl⟩
       have hf:okAt s.data.toList k=false:=by
        rw [← Bool.not_eq_true,HN.out]
        try simp only [beq_iff_eq,beq_eq_false_iff_ne,ne_eq] at *
        omega
       rw [clean_no hlt hf]
       rfl)
    | (go_round
       case rel =>
        have ht:okAt s.data.toList k=true:=by
         rw [HN.out]
         try simp only [beq_iff_eq,beq_eq_false_iff_ne,ne_eq] at *
         omega
        exact ⟨k+1,by omega,by go_num,fun j hj=>if e:j=k then by rw [e];exact ht else HOK.out j (by omega)⟩
       case measure=>simp [intOf];omega)
  ·go_wp2
   go_ret
   exact ⟨by rw [clean_yes fun j hj=>HOK.out j (by omega)];rfl,rfl⟩
end Go.Proofs
namespace Go.Proofs
open Go.RowKit Go.Sp
structure Row8 (w:World) (B n:Nat) (f:Nat→UInt8):Prop where
 cell:∀ j,j<n→w.cell? ⟨B,j,none⟩=some (.int .u8 ((f j).toNat:Int))
 frozen:∀ j,j<n→w.frozen? ⟨B,j,none⟩=false
theorem Row8.of_bytes (w:World) (s:ByteArray):Row8 (Lib.bytesWorld w 5 s) w.heap.size s.size (fun j=>s.data.toList.getD j 0) where
 cell:=fun j hj=>Lib.bytesWorld_cell w 5 s j hj
 frozen:=fun j hj=>by
  unfold World.frozen?
  simp only [Lib.bytesWorld_at_new]
  have:j<(Lib.bytesCells w 5 s).size:=by
   simp [Lib.bytesCells]
   have:s.size=s.data.size:=rfl
   omega
  simp
  omega
theorem Row8.put {w:World} {B n:Nat} {f:Nat→UInt8} (h:Row8 w B n f) {i:Nat} (hi:i<n) (c:UInt8):Row8 (w.setCell ⟨B,i,none⟩ (.int .u8 (c.toNat:Int))) B n (fun j=>if j=i then c else f j) where
 cell:=fun j hj=>by
  by_cases e:j=i
  ·subst e
   rw [World.cell?_setCell_same _ _ _ (h.cell j hj),if_pos rfl]
  ·rw [World.cell?_setCell_other _ ⟨B,i,none⟩ ⟨B,j,none⟩ _ (by simp <;> omega),if_neg e]
   exact h.cell j hj
 frozen:=fun j hj=>by rw [World.frozen?_setCell];exact h.frozen j hj
theorem Row8.drew {w:World} {B n:Nat} {f:Nat→UInt8} (h:Row8 w B n f):Row8 w.drew B n f:=⟨h.cell,h.frozen⟩
theorem Row8.congr {w:World} {B n:Nat} {f g:Nat→UInt8} (h:Row8 w B n f) (e:∀ j,j<n→f j=g j):Row8 w B n g:=⟨fun j hj=>by rw [← e j hj];exact h.cell j hj,h.frozen⟩
theorem below_bytes (w:World) (s:ByteArray):Below w.heap.size w (Lib.bytesWorld w 5 s) :=
 ⟨rfl,rfl,rfl,by rw [Lib.bytesWorld_size];omega,fun k hk=>Lib.bytesWorld_at_old w 5 s k hk⟩
def foldF (s:ByteArray) (k j:Nat):UInt8:=if j<k then low (s.data.toList.getD j 0) else s.data.toList.getD j 0
def FoldRel (s:ByteArray) (w wr:World) (k:Nat):Prop:=Below w.heap.size w wr∧Row8 wr w.heap.size s.size (foldF s k)∧w.heap.size<wr.heap.size
theorem FoldRel.keep {s:ByteArray} {w wr:World} {k:Nat} (h:FoldRel s w wr k) (hk:k<s.size) (hl:low s[k]=s[k]):FoldRel s w wr (k+1):=by
 refine ⟨h.1,h.2.1.congr fun j hj=>?_,h.2.2⟩
 unfold foldF
 by_cases e:j=k
 ·subst e
  rw [if_neg (by omega),if_pos (by omega)]
  have:s.data.toList.getD j 0=s[j]:=by rw [List.getD,get_at s j hk];rfl
  rw [this,hl]
 ·by_cases h2:j<k
  ·rw [if_pos h2,if_pos (by omega)]
  ·rw [if_neg h2,if_neg (by omega)]
theorem FoldRel.put {s:ByteArray} {w wr:World} {k:Nat} (h:FoldRel s w wr k) (hk:k<s.size) {c:UInt8} (hl:low s[k]=c):FoldRel s w (wr.setCell ⟨w.heap.size,k,none⟩ (.int .u8 (c.toNat:Int))) (k+1):=by
 refine ⟨h.1.setCell (by simp) _,(h.2.1.put hk c).congr fun j hj=>?_,by simpa using h.2.2⟩
 unfold foldF
 by_cases e:j=k
 ·subst e
  rw [if_pos rfl,if_pos (by omega)]
  have:s.data.toList.getD j 0=s[j]:=by rw [List.getD,get_at s j hk];rfl
  rw [this,hl]
 ·rw [if_neg e]
  by_cases h2:j<k
  ·rw [if_pos h2,if_pos (by omega)]
  ·rw [if_neg h2,if_neg (by omega)]
set_option maxRecDepth 100000 in
set_option maxHeartbeats 2000000 in
theorem fold_ok (s:ByteArray) (w:World) (hs:s.size≤35184372088832):Calls Tryz.prog 346 #[.string s] w (RetB (.string ⟨(s.data.toList.map low).toArray⟩) w):=by
 have hconv:=Lib.run_convert_string_bytes (P:=Tryz.prog) w 9 91 5 s Tryz.underlying9 Tryz.underlying91 Tryz.underlying5
 have hrow:=Row8.of_bytes w s
 have hb:=below_bytes w s
 have hsz:(Lib.bytesWorld w 5 s).heap.size=w.heap.size+1:=Lib.bytesWorld_size w 5 s
 have hlt:w.heap.size<(Lib.bytesWorld w 5 s).heap.size:=by omega
 generalize grownCap w s.size 0 5=cap at hconv
 generalize Lib.bytesWorld w 5 s=W0 at hconv hrow hb hlt hsz
 clear hsz
 go_enter Tryz.func346,Tryz.ntmps346
 go_wp2
 go_loopw [10] (fun i wr=>∃ k:Nat,k≤s.size∧i=.int .i64 k∧FoldRel s w wr k) (fun i _=>s.size - (intOf i).toNat)
 case atStart=>exact ⟨0,Nat.zero_le _,rfl,hb,hrow.congr (fun j _=>by unfold foldF;rw [if_neg (by omega)]),hlt⟩
 case round =>
  obtain ⟨k,hk,rfl,hR⟩:=hrel
  clear hconv hrow hb
  by_cases hk2:k<s.size
  ·have hc:=hR.2.1.cell k hk2
   have hf:=hR.2.1.frozen k hk2
   have e0:foldF s k k=s[k]:=by
    unfold foldF
    rw [if_neg (by omega),List.getD,get_at s k hk2]
    rfl
   rw [e0] at hc
   clear e0
   by_cases hu:65≤s[k]∧s[k]≤90
   ·have f1:65≤(s[k].toNat:Int):=by have:=UInt8.le_iff_toNat_le.1 hu.1;simp at this;omega
    have f2:(s[k].toNat:Int)≤90:=by have:=UInt8.le_iff_toNat_le.1 hu.2;simp at this;omega
    have hl:low s[k]=s[k]+32:=by unfold low;rw [if_pos hu]
    have hn:((s[k]+32).toNat:Int)=(s[k].toNat:Int)+32:=by
     rw [UInt8.toNat_add]
     simp
     omega
    have HP:=Lib.hid (hR.put hk2 hl)
    rw [hn] at HP
    clear hl hn hu
    go_wp2
    go_roundw
    case rel=>exact ⟨k+1,by omega,by go_num,HP.out⟩
    case measure=>simp [intOf];omega
   ·have hl:low s[k]=s[k]:=by unfold low;rw [if_neg hu]
    have HP:=Lib.hid (hR.keep hk2 hl)
    have f1:(s[k].toNat:Int)<65∨90<(s[k].toNat:Int):=by
     rcases Nat.lt_or_ge s[k].toNat 65 with h | h
     ·exact .inl (by omega)
     ·rcases Nat.lt_or_ge 90 s[k].toNat with h2 | h2
      ·exact .inr (by omega)
      ·exact absurd ⟨UInt8.le_iff_toNat_le.2 h,UInt8.le_iff_toNat_le.2 h2⟩ hu
    clear hl hu
    go_wp2
    all_goals first
     | omega
     | (go_roundw
        case rel=>exact ⟨k+1,by omega,by go_num,HP.out⟩
        case measure=>simp [intOf];omega)
  ·have hlen:(s.data.toList.map low).length=s.size:=by rw [List.length_map,size_len]
   have hback:=run_convert_bytes_back (P:=Tryz.prog) wr 91 9 5 ⟨w.heap.size,0,none⟩ cap (s.data.toList.map low) Tryz.underlying91 Tryz.underlying5 Tryz.underlying9 (fun j hj=>by
    rw [hlen] at hj
    have:=hR.2.1.cell j hj
    have e1:(⟨w.heap.size,0,none⟩:Addr).add j=⟨w.heap.size,j,none⟩:=by
     unfold Addr.add
     by_cases h0:j=0 <;> simp [h0]
    rw [e1,this]
    unfold foldF
    rw [if_pos (by omega)]
    simp [List.getD,get_at s j hj]
    rfl)
   rw [hlen] at hback
   go_wp2
   go_ret
   exact ⟨rfl,hR.1⟩
end Go.Proofs
namespace Go.Proofs
open Go.RowKit Go.Sp
structure Gl (w:World):Prop where
 size:17≤w.heap.size
 max:∃ m,w.cell? ⟨2,0,none⟩=some (.int .i64 m)
theorem Gl.below {w w':World} (h:Gl w) (b:Below w.heap.size w w'):Gl w':=by
 obtain ⟨m,hm⟩:=h.max
 refine ⟨Nat.le_trans h.size b.size,m,?_⟩
 rw [b.cell (p:=⟨2,0,none⟩) (by have:=h.size;simp;omega)]
 exact hm
theorem Gl.from {w w':World} (h:Gl w) {B:Nat} (hB:17≤B) (b:Below B w w'):Gl w':=by
 obtain ⟨m,hm⟩:=h.max
 refine ⟨Nat.le_trans h.size b.size,m,?_⟩
 rw [b.cell (p:=⟨2,0,none⟩) (by simp;omega)]
 exact hm
theorem retB_same {P:Program} {f:FuncId} {args:Array Value} {w:World} {v:Value} (h:Calls P f args w fun e w'=>e=.returned v∧w'=w):Calls P f args w (RetB v w) :=
 h.mono fun _ _ he=>⟨he.1,by rw [he.2];exact Below.refl _ _⟩
theorem retB_drewN {P:Program} {f:FuncId} {args:Array Value} {w:World} {v:Value} (h:Calls P f args w fun e w'=>e=.returned v∧∃ n,w'=w.drewN n):Calls P f args w (RetB v w) :=
 h.mono fun _ _ he=>by
  obtain ⟨h1,n,rfl⟩:=he
  exact ⟨h1,below_drewN (Below.refl _ _) n⟩
theorem cutL (s:ByteArray) (w:World) (hs:s.size<4294967281) (hg:Gl w) {a b:Bs} {t:Bool} (h:Lib.cut s.data.toList [58]=(a,b,t)):Calls Tryz.prog 345 #[.string s,.string ⟨#[58]⟩] w (RetB (.tuple #[.string ⟨a.toArray⟩,.string ⟨b.toArray⟩,.bool t]) w):=by
 obtain ⟨m,hm⟩:=hg.max
 have:=Tryz.strings_Cut s ⟨#[58]⟩ m w hs hm
 have e:Lib.cut s.data.toList (⟨#[58]⟩:ByteArray).data.toList=(a,b,t):=h
 rw [e] at this
 exact retB_drewN this
theorem trimSuffixL (l:Bs) (c:UInt8) (w:World) (hs:l.length≤35184372088832):Calls Tryz.prog 44 #[.string ⟨l.toArray⟩,.string ⟨#[c]⟩] w (RetB (.string ⟨(Lib.trimSuffix l [c]).toArray⟩) w) :=
 retB_same (Tryz.strings_TrimSuffix ⟨l.toArray⟩ ⟨#[c]⟩ w (by show l.length≤_;omega))
theorem trimPrefixL (l:Bs) (c:UInt8) (w:World):Calls Tryz.prog 161 #[.string ⟨l.toArray⟩,.string ⟨#[c]⟩] w (RetB (.string ⟨(Lib.trimPrefix l [c]).toArray⟩) w) :=
 retB_same (Tryz.strings_TrimPrefix ⟨l.toArray⟩ ⟨#[c]⟩ w)
theorem foldL (l:Bs) (w:World) (hs:l.length≤35184372088832):Calls Tryz.prog 346 #[.string ⟨l.toArray⟩] w (RetB (.string ⟨(l.map low).toArray⟩) w):=fold_ok ⟨l.toArray⟩ w hs
def spacesV:Value:=.agg #[.string ⟨#[]⟩,.string ⟨#[84,97,108,107]⟩,.string ⟨#[85,115,101,114]⟩,.string ⟨#[84,101,109,112,108,97,116,101]⟩,.string ⟨#[67,97,116,101,103,111,114,121]⟩,.string ⟨#[80,114,111,106,101,99,116]⟩]
set_option maxRecDepth 100000 in
theorem spaces_ok (w:World):Calls Tryz.prog 154 #[] w (RetB spacesV w):=by
 go_enter Tryz.func154,Tryz.ntmps154
 go_wp2
 exact bodyPost_ret (v:=spacesV) (by simp [results,Tryz.results154,go_sem];rfl) rfl ⟨rfl,(Below.refl _ w).alloc (Nat.le_refl _) _⟩
def preV (s:Bs):Value:=match pre s with
 | none=>.tuple #[.int .i64 0,.string ⟨#[]⟩,.bool false]
 | some (i,r)=>.tuple #[.int .i64 i,.string ⟨r.toArray⟩,.bool true]
theorem space_at0 (w:World):(Instr.index 265 spacesV (.int .i64 0)).run Tryz.prog w=.ok (.string ⟨([]:Bs).toArray⟩) w:=by kernel_rfl
theorem space_at1 (w:World):(Instr.index 265 spacesV (.int .i64 1)).run Tryz.prog w=.ok (.string ⟨([84,97,108,107]:Bs).toArray⟩) w:=by kernel_rfl
theorem space_at2 (w:World):(Instr.index 265 spacesV (.int .i64 2)).run Tryz.prog w=.ok (.string ⟨([85,115,101,114]:Bs).toArray⟩) w:=by kernel_rfl
theorem space_at3 (w:World):(Instr.index 265 spacesV (.int .i64 3)).run Tryz.prog w=.ok (.string ⟨([84,101,109,112,108,97,116,101]:Bs).toArray⟩) w:=by kernel_rfl
theorem space_at4 (w:World):(Instr.index 265 spacesV (.int .i64 4)).run Tryz.prog w=.ok (.string ⟨([67,97,116,101,103,111,114,121]:Bs).toArray⟩) w:=by kernel_rfl
theorem space_at5 (w:World):(Instr.index 265 spacesV (.int .i64 5)).run Tryz.prog w=.ok (.string ⟨([80,114,111,106,101,99,116]:Bs).toArray⟩) w:=by kernel_rfl
theorem spaceOf_some {n:Bs} {k:Nat} (hk:k=1∨k=2∨k=3∨k=4∨k=5) (h:(n.map low == (nms.getD k []).map low)=true) (hl:∀ j:Nat,0<j→j<k→(n.map low == (nms.getD j []).map low)=false):spaceOf n=some k:=by
 unfold spaceOf
 rcases hk with rfl | rfl | rfl | rfl | rfl
 ·rw [List.find?_cons_of_pos (p:=fun i:Nat=>n.map low == (nms.getD i []).map low) h]
 ·rw [List.find?_cons_of_neg (by rw [hl 1 (by decide) (by decide)];decide),List.find?_cons_of_pos (p:=fun i:Nat=>n.map low == (nms.getD i []).map low) h]
 ·rw [List.find?_cons_of_neg (by rw [hl 1 (by decide) (by decide)];decide),List.find?_cons_of_neg (by rw [hl 2 (by decide) (by decide)];decide),List.find?_cons_of_pos (p:=fun i:Nat=>n.map low == (nms.getD i []).map low) h]
 ·rw [List.find?_cons_of_neg (by rw [hl 1 (by decide) (by decide)];decide),List.find?_cons_of_neg (by rw [hl 2 (by decide) (by decide)];decide),List.find?_cons_of_neg (by rw [hl 3 (by decide) (by decide)];decide),List.find?_cons_of_pos (p:=fun i:Nat=>n.map low == (nms.getD i []).map low) h]
 ·rw [List.find?_cons_of_neg (by rw [hl 1 (by decide) (by decide)];decide),List.find?_cons_of_neg (by rw [hl 2 (by decide) (by decide)];decide),List.find?_cons_of_neg (by rw [hl 3 (by decide) (by decide)];decide),List.find?_cons_of_neg (by rw [hl 4 (by decide) (by decide)];decide),List.find?_cons_of_pos (p:=fun i:Nat=>n.map low == (nms.getD i []).map low) h]
theorem spaceOf_none {n:Bs} (hl:∀ j:Nat,0<j→j<6→(n.map low == (nms.getD j []).map low)=false):spaceOf n=none:=by
 unfold spaceOf
 rw [List.find?_eq_none]
 intro j hj
 have:0<j∧j<6:=by
  simp at hj
  omega
 rw [hl j this.1 this.2]
 decide
theorem trimSuffix_len (l p:Bs):(Lib.trimSuffix l p).length≤l.length:=by
 unfold Lib.trimSuffix
 split
 ·rw [List.length_take];omega
 ·exact Nat.le_refl _
set_option maxRecDepth 100000 in
set_option maxHeartbeats 4000000 in
theorem prefix_ok (s:ByteArray) (w:World) (hs:s.size<4294967281) (hg:Gl w):Calls Tryz.prog 218 #[.string s] w (RetB (preV s.data.toList) w):=by
 by_cases hx:0≤Lib.index s.data.toList [58]
 ·have hcut:Lib.cut s.data.toList [58]=((Lib.cut s.data.toList [58]).1,(Lib.cut s.data.toList [58]).2.1,true):=by unfold Lib.cut;rw [if_pos hx]
  have hlen:(Lib.cut s.data.toList [58]).1.length≤s.size:=by
   unfold Lib.cut
   rw [if_pos hx,size_len]
   simp only [List.length_take]
   omega
  have hp:pre s.data.toList=(spaceOf (Lib.trimSuffix (Lib.cut s.data.toList [58]).1 [32])).map fun i=>(i,(Lib.cut s.data.toList [58]).2.1):=by unfold pre;rw [if_pos hx]
  generalize (Lib.cut s.data.toList [58]).1=a at *
  generalize (Lib.cut s.data.toList [58]).2.1=b at *
  have ht:=trimSuffix_len a [32]
  have HC:=fun w hg=>cutL s w hs hg hcut
  have HP:=Lib.hid hp
  clear hcut hp hx
  go_enter Tryz.func218,Tryz.ntmps218
  go_wp2_with (go_at_call 345;refine (HC _ hg).mono ?_)
  rintro e W1 ⟨rfl,b1⟩
  go_wp2_with (go_at_call 44;refine (trimSuffixL a 32 _ (by omega)).mono ?_)
  rintro e W2 ⟨rfl,b2⟩
  go_wp2_with (go_at_call 346;refine (foldL _ _ (by omega)).mono ?_)
  rintro e W3 ⟨rfl,b3⟩
  go_wp2_with (go_at_call 154;refine (spaces_ok _).mono ?_)
  rintro e W4 ⟨rfl,b4⟩
  have hB:=((b1.trans (b2.mono b1.size)).trans (b3.mono (Nat.le_trans b1.size b2.size))).trans (b4.mono (Nat.le_trans b1.size (Nat.le_trans b2.size b3.size)))
  clear HC b1 b2 b3 b4
  have hx0:=space_at0
  have hx1:=space_at1
  have hx2:=space_at2
  have hx3:=space_at3
  have hx4:=space_at4
  have hx5:=space_at5
  go_wp2
  go_loopw [23] (fun i wr=>∃ n:Int,i=.int .i64 n∧(n=0∨n=1∨n=2∨n=3∨n=4∨n=5∨n=6)∧Below w.heap.size w wr∧∀ j:Nat,0<j→(j:Int)<n→((Lib.trimSuffix a [32]).map low == (nms.getD j []).map low)=false) (fun i _=>6 - (intOf i).toNat)
  case atStart=>exact ⟨0,rfl,.inl rfl,hB,fun j _ h=>by omega⟩
  case round =>
   obtain ⟨n,rfl,hn,hW,hj⟩:=hrel
   have HJ:=Lib.hid hj;clear hj
   rcases hn with rfl | rfl | rfl | rfl | rfl | rfl | rfl
   ·go_wp2
    go_roundw
    case rel=>exact ⟨1,rfl,.inr (.inl rfl),hW,fun j h1 h2=>by omega⟩
    case measure=>simp [intOf]
   ·cases hm:((Lib.trimSuffix a [32]).map low == (nms.getD 1 []).map low) with
    | true =>
     have hm':(List.map low (Lib.trimSuffix a [32]) == [low 84,low 97,low 108,low 107])=true:=hm
     have HM:=Lib.hid hm;clear hm
     go_wp2_with (go_at_call 346;refine (foldL _ _ (by decide)).mono ?_)
     rintro e W5 ⟨rfl,b5⟩
     go_wp2
     go_ret3
     exact ⟨by unfold preV;rw [HP.out,spaceOf_some (k:=1) (by decide) HM.out (fun j h1 h2=>HJ.out j h1 (by omega))];rfl,hW.trans (b5.mono hW.size)⟩
    | false =>
     have hm':(List.map low (Lib.trimSuffix a [32]) == [low 84,low 97,low 108,low 107])=false:=hm
     have HM:=Lib.hid hm;clear hm
     go_wp2_with (go_at_call 346;refine (foldL _ _ (by decide)).mono ?_)
     rintro e W5 ⟨rfl,b5⟩
     go_wp2
     go_roundw
     case rel=>exact ⟨2,rfl,.inr (.inr (.inl rfl)),hW.trans (b5.mono hW.size),fun j h1 h2=>if e:j=1 then by rw [e];exact HM.out else HJ.out j h1 (by omega)⟩
     case measure=>simp [intOf]
   ·cases hm:((Lib.trimSuffix a [32]).map low == (nms.getD 2 []).map low) with
    | true =>
     have hm':(List.map low (Lib.trimSuffix a [32]) == [low 85,low 115,low 101,low 114])=true:=hm
     have HM:=Lib.hid hm;clear hm
     go_wp2_with (go_at_call 346;refine (foldL _ _ (by decide)).mono ?_)
     rintro e W5 ⟨rfl,b5⟩
     go_wp2
     go_ret3
     exact ⟨by unfold preV;rw [HP.out,spaceOf_some (k:=2) (by decide) HM.out (fun j h1 h2=>HJ.out j h1 (by omega))];rfl,hW.trans (b5.mono hW.size)⟩
    | false =>
     have hm':(List.map low (Lib.trimSuffix a [32]) == [low 85,low 115,low 101,low 114])=false:=hm
     have HM:=Lib.hid hm;clear hm
     go_wp2_with (go_at_call 346;refine (foldL _ _ (by decide)).mono ?_)
     rintro e W5 ⟨rfl,b5⟩
     go_wp2
     go_roundw
     case rel=>exact ⟨3,rfl,.inr (.inr (.inr (.inl rfl))),hW.trans (b5.mono hW.size),fun j h1 h2=>if e:j=2 then by rw [e];exact HM.out else HJ.out j h1 (by omega)⟩
     case measure=>simp [intOf]
   ·cases hm:((Lib.trimSuffix a [32]).map low == (nms.getD 3 []).map low) with
    | true =>
     have hm':(List.map low (Lib.trimSuffix a [32]) == [low 84,low 101,low 109,low 112,low 108,low 97,low 116,low 101])=true:=hm
     have HM:=Lib.hid hm;clear hm
     go_wp2_with (go_at_call 346;refine (foldL _ _ (by decide)).mono ?_)
     rintro e W5 ⟨rfl,b5⟩
     go_wp2
     go_ret3
     exact ⟨by unfold preV;rw [HP.out,spaceOf_some (k:=3) (by decide) HM.out (fun j h1 h2=>HJ.out j h1 (by omega))];rfl,hW.trans (b5.mono hW.size)⟩
    | false =>
     have hm':(List.map low (Lib.trimSuffix a [32]) == [low 84,low 101,low 109,low 112,low 108,low 97,low 116,low 101])=false:=hm
     have HM:=Lib.hid hm;clear hm
     go_wp2_with (go_at_call 346;refine (foldL _ _ (by decide)).mono ?_)
     rintro e W5 ⟨rfl,b5⟩
     go_wp2
     go_roundw
     case rel=>exact ⟨4,rfl,.inr (.inr (.inr (.inr (.inl rfl)))),hW.trans (b5.mono hW.size),fun j h1 h2=>if e:j=3 then by rw [e];exact HM.out else HJ.out j h1 (by omega)⟩
     case measure=>simp [intOf]
   ·cases hm:((Lib.trimSuffix a [32]).map low == (nms.getD 4 []).map low) with
    | true =>
     have hm':(List.map low (Lib.trimSuffix a [32]) == [low 67,low 97,low 116,low 101,low 103,low 111,low 114,low 121])=true:=hm
     have HM:=Lib.hid hm;clear hm
     go_wp2_with (go_at_call 346;refine (foldL _ _ (by decide)).mono ?_)
     rintro e W5 ⟨rfl,b5⟩
     go_wp2
     go_ret3
     exact ⟨by unfold preV;rw [HP.out,spaceOf_some (k:=4) (by decide) HM.out (fun j h1 h2=>HJ.out j h1 (by omega))];rfl,hW.trans (b5.mono hW.size)⟩
    | false =>
     have hm':(List.map low (Lib.trimSuffix a [32]) == [low 67,low 97,low 116,low 101,low 103,low 111,low 114,low 121])=false:=hm
     have HM:=Lib.hid hm;clear hm
     go_wp2_with (go_at_call 346;refine (foldL _ _ (by decide)).mono ?_)
     rintro e W5 ⟨rfl,b5⟩
     go_wp2
     go_roundw
     case rel=>exact ⟨5,rfl,.inr (.inr (.inr (.inr (.inr (.inl rfl))))),hW.trans (b5.mono hW.size),fun j h1 h2=>if e:j=4 then by rw [e];exact HM.out else HJ.out j h1 (by omega)⟩
     case measure=>simp [intOf]
   ·cases hm:((Lib.trimSuffix a [32]).map low == (nms.getD 5 []).map low) with
    | true =>
     have hm':(List.map low (Lib.trimSuffix a [32]) == [low 80,low 114,low 111,low 106,low 101,low 99,low 116])=true:=hm
     have HM:=Lib.hid hm;clear hm
     go_wp2_with (go_at_call 346;refine (foldL _ _ (by decide)).mono ?_)
     rintro e W5 ⟨rfl,b5⟩
     go_wp2
     go_ret3
     exact ⟨by unfold preV;rw [HP.out,spaceOf_some (k:=5) (by decide) HM.out (fun j h1 h2=>HJ.out j h1 (by omega))];rfl,hW.trans (b5.mono hW.size)⟩
    | false =>
     have hm':(List.map low (Lib.trimSuffix a [32]) == [low 80,low 114,low 111,low 106,low 101,low 99,low 116])=false:=hm
     have HM:=Lib.hid hm;clear hm
     go_wp2_with (go_at_call 346;refine (foldL _ _ (by decide)).mono ?_)
     rintro e W5 ⟨rfl,b5⟩
     go_wp2
     go_roundw
     case rel=>exact ⟨6,rfl,.inr (.inr (.inr (.inr (.inr (.inr rfl))))),hW.trans (b5.mono hW.size),fun j h1 h2=>if e:j=5 then by rw [e];exact HM.out else HJ.out j h1 (by omega)⟩
     case measure=>simp [intOf]
   ·go_wp2
    go_ret3
    exact ⟨by unfold preV;rw [HP.out,spaceOf_none (fun j h1 h2=>HJ.out j h1 (by omega))];rfl,hW⟩
 ·have hcut:Lib.cut s.data.toList [58]=(s.data.toList,[],false):=by unfold Lib.cut;rw [if_neg hx]
  have hp:pre s.data.toList=none:=by unfold pre;rw [if_neg hx]
  have HP:=Lib.hid hp
  clear hp
  go_enter Tryz.func218,Tryz.ntmps218
  go_wp2_with (go_at_call 345;refine (cutL s _ hs hg hcut).mono ?_)
  rintro e W1 ⟨rfl,b1⟩
  go_wp2
  go_ret3
  exact ⟨by unfold preV;rw [HP.out];rfl,b1⟩
end Go.Proofs
namespace Go.Proofs
open Go.RowKit Go.Sp
structure RowS (w:World) (B:Nat) (L:List Bs):Prop where
 cell:∀ j,j<L.length→w.cell? ⟨B,j,none⟩=some (.string ⟨(L.getD j []).toArray⟩)
 frozen:∀ j,j<L.length→w.frozen? ⟨B,j,none⟩=false
def RetL (L:List Bs) (w:World) (e:Ending) (w':World):Prop:=e=.returned (.slice (some ⟨w.heap.size,0,none⟩) L.length L.length)∧Below w.heap.size w w'∧RowS w' w.heap.size L∧w.heap.size<w'.heap.size
theorem splitB_eq (s:ByteArray) (c:UInt8):(Lib.splitB ⟨#[c]⟩ 0 (Lib.countB s ⟨#[c]⟩) s).map (·.data.toList)=splitL c s.data.toList:=by
 rw [Lib.splitB_data,← lib_split]
 rfl
theorem splitOk (s:ByteArray) (c:UInt8) (w:World) (hs:s.size<4294967281) (hg:Gl w):Calls Tryz.prog 43 #[.string s,.string ⟨#[c]⟩] w (RetL (splitL c s.data.toList) w):=by
 obtain ⟨m,hm⟩:=hg.max
 have h:=Tryz.strings_Split s ⟨#[c]⟩ m w hs hm (Nat.le_refl _)
 have hl:(Lib.splitB ⟨#[c]⟩ 0 (Lib.countB s ⟨#[c]⟩) s).length=Lib.countB s ⟨#[c]⟩+1:=Lib.splitB_all ⟨#[c]⟩ (Nat.le_refl _) 0 _ s rfl
 have hL:(splitL c s.data.toList).length=Lib.countB s ⟨#[c]⟩+1:=by rw [← splitB_eq,List.length_map,hl]
 refine h.mono fun e w' he=>?_
 obtain ⟨rfl,rfl⟩:=he
 refine ⟨by rw [hL],(Below.refl _ w).alloc (Nat.le_refl _) _,⟨fun j hj=>?_,fun j hj=>?_⟩,by simp⟩
 ·have hj2:j<(Lib.splitB ⟨#[c]⟩ 0 (Lib.countB s ⟨#[c]⟩) s).length:=by rw [hl,← hL];exact hj
  have e1:(splitL c s.data.toList).getD j []=((Lib.splitB ⟨#[c]⟩ 0 (Lib.countB s ⟨#[c]⟩) s)[j]).data.toList:=by
   rw [← splitB_eq,List.getD,List.getElem?_map,List.getElem?_eq_getElem hj2]
   rfl
  rw [e1]
  simp [World.cell?,World.alloc,-World.alloc_eq,hj2]
 ·simp [World.frozen?,World.alloc,-World.alloc_eq]
theorem partOk_num (x:ByteArray) (h:0<x.size):partOk x.data.toList=true↔¬ (x[0].toNat:Int)=32∧¬ (x[x.size - 1].toNat:Int)=32:=by
 have h0:=get_at x 0 h
 have h1:=get_at x (x.size - 1) (by omega)
 have hl:x.data.toList.getLast? = some x[x.size - 1]:=by rw [List.getLast?_eq_getElem?,← size_len];exact h1
 have hh:x.data.toList.head? = some x[0]:=by rw [List.head?_eq_getElem?];exact h0
 have he:x.data.toList.isEmpty=false:=by
  cases hx:x.data.toList with
  | nil=>rw [size_len,hx] at h;cases h
  | cons a l=>rfl
 unfold partOk
 rw [he,hh,hl]
 have a1:=byte_eq_iff x[0] 32
 have a2:=byte_eq_iff x[x.size - 1] 32
 simp [a1,a2]
theorem partOk_nil (x:ByteArray) (h:¬ 0<x.size):partOk x.data.toList=false:=by
 have:x.data.toList=[]:=List.eq_nil_of_length_eq_zero (by rw [← size_len];omega)
 rw [this]
 rfl
end Go.Proofs
