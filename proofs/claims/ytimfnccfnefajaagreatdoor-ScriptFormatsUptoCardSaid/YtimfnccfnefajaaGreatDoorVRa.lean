/- A part of the proof: Ra, Rb, Rc, Rd, Rf, Re -/
import Derived.Test.YtimfnccfnefajaaGreatDoorVWk
import Derived.Lib.AppendStr
import Derived.Laws.BytesArg
import Derived.Lib.LazyBuf
import Derived.Test.YtimfnccfnefajaaGreatDoorVWb
import Derived.Test.YtimfnccfnefajaaGreatDoorVWl
import Derived.Laws.OwnMore
set_option linter.unusedSimpArgs false
set_option linter.unusedVariables false
namespace Go.Proofs
open Go.RowKit Go.Sp
theorem und91:Tryz.prog.underlying 91=some (.slice 5):=by kernel_rfl
theorem und9s:Tryz.prog.underlying 9=some .string:=by kernel_rfl
theorem und5:Tryz.prog.underlying 5=some (.int .u8):=by kernel_rfl
def byts (l:Bs):List Value:=l.map fun c=>Value.int .u8 c.toNat
theorem byts_app (a b:Bs):byts (a ++ b)=byts a ++ byts b:=by simp [byts]
structure WdR (w wr:World) (s:ByteArray) (k:Nat) (v:Value):Prop where
 below:Below w.heap.size w wr
 row:wr.ownsRow w.heap.size 5 1 v (escs (s.data.toList.take k)).length (byts (escs (s.data.toList.take k)))
theorem WdR.push {w wr w1:World} {s:ByteArray} {k:Nat} {v v1:Value} (h:WdR w wr s k v) (hk:k<s.size) {bs:Bs} (he:esc s[k]=bs) {W:World} (hW:Below wr.heap.size wr W) (ho:w1.ownsRow w.heap.size 5 1 v1 ((escs (s.data.toList.take k)).length+bs.length) (byts (escs (s.data.toList.take k)) ++ byts bs)) (hg:W.grownBy w1 v.ownBlock):WdR w w1 s (k+1) v1:=by
 have hs:=h.below.size
 refine ⟨(h.below.trans (hW.mono hs)).grown hg (Nat.le_trans hs hW.size) (fun g hh=>owns_base h.row g hh),?_⟩
 rw [take_snoc s k hk,escs_snoc,he,List.length_append,byts_app]
 exact ho
theorem two_size (a b:UInt8):(⟨#[a,b]⟩:ByteArray).size=2:=rfl
theorem convB {w:World} {base:Nat} {v:Value} {l:Bs} (hl:0<l.length) (h:w.ownsRow base 5 1 v l.length (byts l)):(convert 91 9 v).run Tryz.prog w=.ok (.string ⟨l.toArray⟩) w:=by
 rcases h.2 with ⟨_,hn⟩ | ⟨g,cap,cur,rfl,_,hg,_⟩
 ·omega
 ·have hc:=h.cells (g:=g) rfl
  have hadd:∀ j,(⟨g,0,none⟩:Addr).add j=⟨g,0+j,none⟩:=fun j=>by unfold Addr.add;split <;> simp_all
  have:=run_convert_bytes_arg w 91 5 und91 und5 g 0 l.length cap (l.map fun b=>(b.toNat:Int)) (by simp) (fun i hi=>by
   rw [← hadd]
   refine hc i _ ?_
   unfold byts
   rw [List.getElem?_map,List.getElem?_eq_getElem hi]
   simp [List.getD,List.getElem?_eq_getElem hi]) 9 und9s
  rw [Lib.Lz.strOfNums_map] at this
  exact this
set_option maxRecDepth 100000 in
set_option maxHeartbeats 4000000 in
theorem Word_ok (s:ByteArray) (w:World) (hs:s.size<4294960000):Calls Tryz.prog 87 #[.string s] w (RetB (.string ⟨(wr s.data.toList).toArray⟩) w):=by
 obtain ⟨i0,hi,hz0,hz1,hz2⟩:=info_parts info5
 by_cases h1:s.data.toList=[]
 ·have e1:s.toList.isEmpty=true:=by rw [ByteArray.toList_eq,h1];rfl
  have hw:wr s.data.toList=[45]:=by rw [h1];rfl
  have HW:=Lib.hid hw;clear hw h1
  go_enter Tryz.func87,Tryz.ntmps87
  go_wp2
  go_ret
  exact ⟨by rw [HW.out];rfl,Below.refl _ _⟩
 ·have e1:s.toList.isEmpty=false:=by
   rw [ByteArray.toList_eq]
   cases hl:s.data.toList with
   | nil=>exact absurd hl h1
   | cons _ _=>rfl
  by_cases h2:s.data.toList=[45]
  ·have e2:(s.toList == [45])=true:=by rw [ByteArray.toList_eq,h2];rfl
   have hw:wr s.data.toList=[126,109]:=by rw [h2];rfl
   have HW:=Lib.hid hw;clear hw h1 h2
   go_enter Tryz.func87,Tryz.ntmps87
   go_wp2
   go_ret
   exact ⟨by rw [HW.out];rfl,Below.refl _ _⟩
  ·have e2:(s.toList == [45])=false:=by rw [ByteArray.toList_eq];simpa using h2
   have hw:wr s.data.toList=escs s.data.toList:=by unfold wr;rw [if_neg h1,if_neg h2]
   have hpos:0<s.size:=by
    rw [size_len]
    exact List.length_pos_iff.2 h1
   have HW:=Lib.hid hw;clear hw h1 h2
   go_enter Tryz.func87,Tryz.ntmps87
   go_wp2
   go_loopw [3,4] (fun v i wr=>∃ k:Nat,k≤s.size∧i=.int .i64 k∧WdR w wr s k v) (fun _ i _=>s.size - (intOf i).toNat)
   case atStart=>exact ⟨0,Nat.zero_le _,rfl,Below.refl _ _,by rw [List.take_zero];exact World.ownsRow_nil _ _ _ _⟩
   case round =>
    obtain ⟨k,hk,rfl,hR⟩:=hrel
    have hl:(escs (s.data.toList.take k)).length≤2 * k:=by
     have h1:=escs_len (s.data.toList.take k)
     have h2:(s.data.toList.take k).length≤k:=List.length_take_le _ _
     omega
    have hz:=hR.below.size
    by_cases hlt:k<s.size
    ·go_wp2_with (first
      | (at_builtin;refine wpList_append_own _ rfl _ _ 91 rfl w.heap.size 5 i0 _ 1 1 und91 hi hz0 hz1 hz2 rfl (by decide) _ _ _ rfl (hR.row.alloc _) ⟨wr.heap.size,0,none⟩ 1 1 [.int .u8 95] rfl rfl (cell_new _ _ _) (fun u hu=>by rw [List.mem_singleton.1 hu];rfl) (by unfold maxLen;omega) (by omega) (by simp;omega) ?_;intro v1 w1 hown1 hgrow1 _hnil)
      | (at_builtin;refine wpList_append_own _ rfl _ _ 91 rfl w.heap.size 5 i0 _ 1 1 und91 hi hz0 hz1 hz2 rfl (by decide) _ _ _ rfl (hR.row.alloc _) ⟨wr.heap.size,0,none⟩ 1 1 [.int .u8 (s[k].toNat:Int)] rfl rfl (cell_new _ _ _) (fun u hu=>by rw [List.mem_singleton.1 hu];rfl) (by unfold maxLen;omega) (by omega) (by simp;omega) ?_;intro v1 w1 hown1 hgrow1 _hnil)
      | (at_builtin;refine Lib.wpList_append_own_string _ rfl _ _ 91 9 rfl w.heap.size 5 i0 und91 und9s hi hz0 hz1 hz2 _ _ _ rfl hR.row _ rfl (by rw [two_size];unfold maxLen;omega) (by rw [two_size];omega) (by omega) ?_;intro v1 w1 hown1 hgrow1 _hnil))
     all_goals
      go_roundw
      case rel =>
       first
        | exact ⟨k+1,by omega,by go_num,hR.push hlt (esc_32 (by assumption)) ((Below.refl _ wr).alloc (Nat.le_refl _) _) hown1 hgrow1⟩
        | exact ⟨k+1,by omega,by go_num,hR.push hlt (esc_10 (by assumption)) (Below.refl _ wr) hown1 hgrow1⟩
        | exact ⟨k+1,by omega,by go_num,hR.push hlt (esc_95 (by assumption)) (Below.refl _ wr) hown1 hgrow1⟩
        | exact ⟨k+1,by omega,by go_num,hR.push hlt (esc_126 (by assumption)) (Below.refl _ wr) hown1 hgrow1⟩
        | exact ⟨k+1,by omega,by go_num,hR.push hlt (Go.Proofs.esc_no (by assumption) (by assumption) (by assumption) (by assumption)) ((Below.refl _ wr).alloc (Nat.le_refl _) _) hown1 hgrow1⟩
      case measure=>simp [intOf];omega
    ·have hkn:k=s.size:=by omega
     subst hkn
     have hfull:s.data.toList.take s.size=s.data.toList:=List.take_of_length_le (by rw [size_len];exact Nat.le_refl _)
     have hrow:=hR.row
     rw [hfull] at hrow
     have hne:0<(escs s.data.toList).length:=by
      cases hq:s.data.toList with
      | nil=>rw [size_len,hq] at hpos;cases hpos
      | cons c r =>
       rw [escs_cons,List.length_append]
       have:=List.length_pos_iff.2 (esc_ne c)
       omega
     have hcv:=convB hne hrow
     have hb:=hR.below
     have HW2:=HW.out
     clear hR hrow hfull hl
     go_wp2
     go_ret
     exact ⟨by rw [HW2];rfl,hb⟩
end Go.Proofs
namespace Go.Proofs
open Go.RowKit Go.Sp
theorem digit_slice (n:Nat) (h:n<10):(⟨#[48,49,50,51,52,53,54,55,56,57]⟩:ByteArray).extract n (n+1)=⟨(Lib.decDigits n).toArray⟩:=by
 rw [Lib.decDigits_one h]
 have:n=0∨n=1∨n=2∨n=3∨n=4∨n=5∨n=6∨n=7∨n=8∨n=9:=by omega
 rcases this with rfl | rfl | rfl | rfl | rfl | rfl | rfl | rfl | rfl | rfl <;> rfl
theorem cat_eq (a b:Bs):((⟨a.toArray⟩:ByteArray) ++ (⟨b.toArray⟩:ByteArray))=⟨(a ++ b).toArray⟩:=by
 apply ByteArray.ext
 apply Array.ext'
 simp
theorem dig_len (n:Nat) (h:n≤18446744073709551615):(Lib.decDigits n).length≤20:=by
 rw [Lib.decDigits_length]
 exact nDigits_le 19 n (by omega)
set_option maxRecDepth 100000 in
set_option maxHeartbeats 4000000 in
theorem digits_ok (n:Nat):∀ (w:World),n≤18446744073709551615→Calls Tryz.prog 150 #[.int .u64 n] w (RetB (.string ⟨(Lib.decDigits n).toArray⟩) w):=by
 induction n using Nat.strongRecOn with
 | ind n ih =>
  intro w hn
  by_cases h:n<10
  ·have hd:=digit_slice n h
   have HD:=Lib.hid hd
   clear hd ih
   have hn10:(n:Int)<10:=by omega
   have hsl:∀ W,(Instr.slice 9 (.string ⟨#[48,49,50,51,52,53,54,55,56,57]⟩) (some (.int .u64 (n:Int))) (some (.int .u64 ((n:Int)+1))) none).run Tryz.prog W=.ok (.string ⟨(Lib.decDigits n).toArray⟩) W:=fun W=>by
    have h1:(0:Int)≤n:=by omega
    have h3:(n:Int)≤(n:Int)+1:=by omega
    have h4:(n:Int)+1≤((⟨#[48,49,50,51,52,53,54,55,56,57]⟩:ByteArray).size:Int):=by show (n:Int)+1≤10;omega
    have h5:(Instr.slice 9 (.string ⟨#[48,49,50,51,52,53,54,55,56,57]⟩) (some (.int .u64 (n:Int))) (some (.int .u64 ((n:Int)+1))) none).run Tryz.prog W=.ok (.string ((⟨#[48,49,50,51,52,53,54,55,56,57]⟩:ByteArray).extract (n:Int).toNat ((n:Int)+1).toNat)) W:=by
     have h6:(0:Int)≤(n:Int)+1:=by omega
     simp [Instr.slice,run_underlying und9s,Instr.sliceBounds,run_sliceBound,h1,h3,h4,h6]
    rw [h5,show ((n:Int)+1).toNat=n+1 by omega,show (n:Int).toNat=n by omega,HD.out]
   go_enter Tryz.func150,Tryz.ntmps150
   go_wp2
   go_ret
   exact ⟨rfl,Below.refl _ _⟩
  ·have h1:=fun W=>ih (n / 10) (by omega) W (by omega)
   have h2:=fun W=>ih (n % 10) (by omega) W (by omega)
   have hn10:¬ (n:Int)<10:=by omega
   have hdd:(Lib.decDigits n)=Lib.decDigits (n / 10) ++ Lib.decDigits (n % 10):=by
    rw [Lib.decDigits,dif_neg h,Lib.decDigits_one (show n % 10<10 by omega)]
   have HD:=Lib.hid hdd
   have hl1:=dig_len (n / 10) (by omega)
   have hl2:=dig_len (n % 10) (by omega)
   clear ih hdd
   go_enter Tryz.func150,Tryz.ntmps150
   go_wp2_with (go_at_call 150;refine (h1 _).mono ?_)
   rintro e W1 ⟨rfl,b1⟩
   clear h1
   go_wp2_with (go_at_call 150;refine (h2 _).mono ?_)
   rintro e W2 ⟨rfl,b2⟩
   have hb:=b1.trans (b2.mono b1.size)
   clear h2 b1 b2
   go_wp2
   go_ret
   exact ⟨by rw [HD.out,← cat_eq];rfl,hb⟩
end Go.Proofs
namespace Go.Proofs
open Go.RowKit Go.Sp
theorem spaceName_ok (n:Nat) (hn:n<6) (w:World):Calls Tryz.prog 47 #[.int .i64 n] w (RetB (.string ⟨(nms.getD n []).toArray⟩) w):=by
 have:n=0∨n=1∨n=2∨n=3∨n=4∨n=5:=by omega
 rcases this with rfl | rfl | rfl | rfl | rfl | rfl
 all_goals
  go_enter Tryz.func47,Tryz.ntmps47
  go_wp2
  go_ret
  exact ⟨rfl,(Below.refl _ w).alloc (Nat.le_refl _) _⟩
def idxB (l:Bs) (c:UInt8) (k:Nat):Int:=if Lib.index (l.drop k) [c] == -1 then -1 else Lib.index (l.drop k) [c]+k
theorem idxB_zero (l:Bs) (c:UInt8):idxB l c 0=Lib.index l [c]:=by
 unfold idxB
 rw [List.drop_zero]
 by_cases h:Lib.index l [c] = -1
 ·rw [if_pos (beq_iff_eq.2 h),h]
 ·rw [if_neg (by rw [beq_iff_eq];exact h)];omega
theorem idxB_hit (l:Bs) (c:UInt8) (k:Nat) (h:k<l.length) (hc:l[k]=c):idxB l c k=k:=by
 unfold idxB
 rw [List.drop_eq_getElem_cons h,hc,index_one_hit]
 rw [if_neg (by decide)];omega
theorem idxB_miss (l:Bs) (c:UInt8) (k:Nat) (h:k<l.length) (hc:l[k]≠c):idxB l c k=idxB l c (k+1):=by
 unfold idxB
 rw [List.drop_eq_getElem_cons h,index_one_miss hc]
 have hge:=Lib.index_ge (l.drop (k+1)) [c]
 generalize Lib.index (l.drop (k+1)) [c]=z at *
 by_cases h1:z = -1
 ·subst h1;rfl
 ·have h2:¬ z+1 = -1:=by omega
  rw [if_neg (show ¬ (z == -1)=true by simpa using h1),if_neg (show ¬ (z+1 == -1)=true by simpa using h2),if_neg (show ¬ (z == -1)=true by simpa using h1)]
  omega
theorem idxB_end (l:Bs) (c:UInt8) (k:Nat) (h:l.length≤k):idxB l c k = -1:=by
 unfold idxB
 rw [List.drop_of_length_le h]
 rfl
theorem slice_one (s:ByteArray) (k:Nat) (h:k<s.size) (W:World):(Instr.slice 9 (.string s) (some (.int .i64 (k:Int))) (some (.int .i64 ((k:Int)+1))) none).run Tryz.prog W=.ok (.string ⟨#[s[k]]⟩) W:=by
 have h1:(0:Int)≤k:=by omega
 have h3:(k:Int)≤(k:Int)+1:=by omega
 have h4:(k:Int)+1≤(s.size:Int):=by omega
 have h6:(0:Int)≤(k:Int)+1:=by omega
 have e:s.extract k (k+1)=⟨#[s[k]]⟩:=by
  apply bytes_ext
  rw [ByteArray.data_extract,Array.toList_extract,List.extract_eq_take_drop,show k+1 - k=1 from by omega,List.drop_eq_getElem_cons (by simpa using h)]
  rfl
 have h5:(Instr.slice 9 (.string s) (some (.int .i64 (k:Int))) (some (.int .i64 ((k:Int)+1))) none).run Tryz.prog W=.ok (.string (s.extract (k:Int).toNat ((k:Int)+1).toNat)) W:=by
  simp [Instr.slice,run_underlying und9s,Instr.sliceBounds,run_sliceBound,h1,h3,h4,h6]
 rw [h5,show ((k:Int)+1).toNat=k+1 by omega,show (k:Int).toNat=k by omega,e]
set_option maxRecDepth 100000 in
set_option maxHeartbeats 4000000 in
theorem indexR_ok (s:ByteArray) (c:UInt8) (w:World) (hs:s.size<4294960000):Calls Tryz.prog 70 #[.string s,.string ⟨#[c]⟩,.int .i64 0] w (RetB (.int .i64 (Lib.index s.data.toList [c])) w):=by
 rw [← idxB_zero]
 have hsl:=slice_one s
 go_enter Tryz.func70,Tryz.ntmps70
 go_wp2
 go_loopw [7] (fun i wr=>∃ k:Nat,k≤s.size∧i=.int .i64 k∧Below w.heap.size w wr∧idxB s.data.toList c 0=idxB s.data.toList c k) (fun i _=>s.size - (intOf i).toNat)
 case atStart=>exact ⟨0,Nat.zero_le _,rfl,Below.refl _ _,rfl⟩
 case round =>
  obtain ⟨k,hk,rfl,hB,hI⟩:=hrel
  by_cases hlt:k<s.size
  ·have hx:=hsl k hlt
   by_cases hc:s[k]=c
   ·rw [idxB_hit _ _ _ (by simpa using hlt) hc] at hI
    have f1:(s[k] == c)=true:=by simpa using hc
    have HI:=Lib.hid hI
    clear hI hsl hc
    go_wp2
    go_ret
    exact ⟨by rw [HI.out];rfl,hB⟩
   ·rw [idxB_miss _ _ _ (by simpa using hlt) hc] at hI
    have f1:(s[k] == c)=false:=by simpa using hc
    have HI:=Lib.hid hI
    clear hI hsl hc
    go_wp2
    go_roundw
    case rel=>exact ⟨k+1,by omega,by go_num,hB,HI.out⟩
    case measure=>simp [intOf];omega
  ·rw [idxB_end s.data.toList c k (by rw [← size_len];omega)] at hI
   have HI:=Lib.hid hI
   clear hI hsl
   go_wp2
   go_ret
   exact ⟨by rw [HI.out];rfl,hB⟩
end Go.Proofs
namespace Go.Proofs
open Go.RowKit Go.Sp
theorem lsize (l:Bs):(⟨l.toArray⟩:ByteArray).size=l.length:=rfl
theorem slice_from (l:Bs) (k:Nat) (h:k≤l.length) (W:World):(Instr.slice 9 (.string ⟨l.toArray⟩) (some (.int .i64 (k:Int))) none none).run Tryz.prog W=.ok (.string ⟨(l.drop k).toArray⟩) W:=by
 have h1:(0:Int)≤k:=by omega
 have h3:(k:Int)≤((⟨l.toArray⟩:ByteArray).size:Int):=by rw [lsize];omega
 have e:(⟨l.toArray⟩:ByteArray).extract k (⟨l.toArray⟩:ByteArray).size=⟨(l.drop k).toArray⟩:=by
  apply bytes_ext
  rw [ByteArray.data_extract,Array.toList_extract,List.extract_eq_take_drop,lsize]
  exact List.take_of_length_le (by rw [List.length_drop];exact Nat.le_refl _)
 have h5:(Instr.slice 9 (.string ⟨l.toArray⟩) (some (.int .i64 (k:Int))) none none).run Tryz.prog W=.ok (.string ((⟨l.toArray⟩:ByteArray).extract (k:Int).toNat ((⟨l.toArray⟩:ByteArray).size:Int).toNat)) W:=by
  simp [Instr.slice,run_underlying und9s,Instr.sliceBounds,run_sliceBound,h1,h3]
 rw [h5,show (k:Int).toNat=k by omega,Int.toNat_natCast,e]
theorem slice_to (l:Bs) (k:Nat) (h:k≤l.length) (W:World):(Instr.slice 9 (.string ⟨l.toArray⟩) none (some (.int .i64 (k:Int))) none).run Tryz.prog W=.ok (.string ⟨(l.take k).toArray⟩) W:=by
 have h1:(0:Int)≤k:=by omega
 have h3:(k:Int)≤((⟨l.toArray⟩:ByteArray).size:Int):=by rw [lsize];omega
 have e:(⟨l.toArray⟩:ByteArray).extract 0 k=⟨(l.take k).toArray⟩:=by
  apply bytes_ext
  rw [ByteArray.data_extract,Array.toList_extract,List.extract_eq_take_drop]
  simp
 have h5:(Instr.slice 9 (.string ⟨l.toArray⟩) none (some (.int .i64 (k:Int))) none).run Tryz.prog W=.ok (.string ((⟨l.toArray⟩:ByteArray).extract 0 (k:Int).toNat)) W:=by
  simp [Instr.slice,run_underlying und9s,Instr.sliceBounds,run_sliceBound,h1,h3]
 rw [h5,show (k:Int).toNat=k by omega,e]
set_option maxRecDepth 100000 in
set_option maxHeartbeats 4000000 in
theorem cut_ok (l:Bs) (k:Nat) (h:k≤l.length) (w:World):Calls Tryz.prog 386 #[.string ⟨l.toArray⟩,.int .i64 k] w (RetB (.string ⟨(cutR l k).toArray⟩) w):=by
 have hsl:=slice_from l k h
 have hc:cutR l k=if (l.drop k).head? = some 32 then (l.drop k).drop 1 else l.drop k:=rfl
 generalize l.drop k=d at *
 cases d with
 | nil =>
  have HC:=Lib.hid (show cutR l k=[] from hc)
  clear hc
  go_enter Tryz.func386,Tryz.ntmps386
  go_wp2
  go_ret
  exact ⟨by rw [HC.out];rfl,Below.refl _ _⟩
 | cons c r =>
  have hs1:∀ W,(Instr.slice 9 (.string ⟨(c :: r).toArray⟩) (some (.int .i64 1)) none none).run Tryz.prog W=.ok (.string ⟨r.toArray⟩) W:=slice_from (c :: r) 1 (Nat.succ_le_succ (Nat.zero_le _))
  by_cases hx:c=32
  ·have HC:=Lib.hid (show cutR l k=r by rw [hc,hx];rfl)
   have f1:((((⟨(c :: r).toArray⟩:ByteArray)[0]'(Nat.zero_lt_succ _)).toNat:Int) == 32)=true:=by
    show ((c.toNat:Int) == 32)=true
    rw [hx];rfl
   clear hc hx
   go_enter Tryz.func386,Tryz.ntmps386
   go_wp2
   go_ret
   exact ⟨by rw [HC.out];rfl,Below.refl _ _⟩
  ·have HC:=Lib.hid (show cutR l k=c :: r by rw [hc,if_neg (by simpa using hx)])
   have f1:((((⟨(c :: r).toArray⟩:ByteArray)[0]'(Nat.zero_lt_succ _)).toNat:Int) == 32)=false:=beq_no hx
   clear hc hx
   go_enter Tryz.func386,Tryz.ntmps386
   go_wp2
   go_ret
   exact ⟨by rw [HC.out];rfl,Below.refl _ _⟩
theorem last_at (o:ByteArray) (h:0<o.size):o.data.toList.getLast? = some o[o.size - 1]:=by
 rw [List.getLast?_eq_getElem?,← size_len];exact get_at o (o.size - 1) (by omega)
theorem push_list (o:ByteArray) (c:UInt8):(o ++ ⟨#[c]⟩).data.toList=o.data.toList ++ [c]:=by simp
theorem empty_nil {o:ByteArray} (h:¬ 0<o.size):o.data.toList=[]:=List.eq_nil_of_length_eq_zero (by rw [← size_len];omega)
theorem empty_t {o:ByteArray} (h:¬ 0<o.size):o.toList.isEmpty=true:=by rw [ByteArray.toList_eq,empty_nil h];rfl
theorem empty_f {o:ByteArray} (h:0<o.size):o.toList.isEmpty=false:=by
 rw [ByteArray.toList_eq]
 cases hq:o.data.toList with
 | nil=>rw [size_len,hq] at h;cases h
 | cons a l=>rfl
theorem ne_nil {o:ByteArray} (h:0<o.size):o.data.toList≠[]:=by
 intro e
 rw [size_len,e] at h
 cases h
theorem slice_init (o:ByteArray) (h:0<o.size) (W:World):(Instr.slice 9 (.string o) none (some (.int .i64 ((o.size:Int) - 1))) none).run Tryz.prog W=.ok (.string ⟨o.data.toList.dropLast.toArray⟩) W:=by
 have:=slice_to o.data.toList (o.size - 1) (by rw [← size_len];omega) W
 rw [show ((o.size - 1:Nat):Int)=(o.size:Int) - 1 by omega] at this
 rw [List.dropLast_eq_take,← size_len]
 exact this
theorem chop_hit {o:ByteArray} (h:0<o.size) (hl:o[o.size - 1]=32):chop o.data.toList=o.data.toList.dropLast:=by
 unfold chop;rw [if_pos (by rw [last_at o h,hl])]
theorem chop_miss {o:ByteArray} (h:0<o.size) (hl:o[o.size - 1]≠32):chop o.data.toList=o.data.toList:=by
 unfold chop;rw [if_neg (by rw [last_at o h];simpa using hl)]
theorem chop_empty {o:ByteArray} (h:¬ 0<o.size):chop o.data.toList=o.data.toList:=by rw [empty_nil h];rfl
theorem blk_skip {o:ByteArray} {c:UInt8} {r:Bs} (h1:und c=32) (h2:¬ 0<o.size∨∃ h:0<o.size,o[o.size - 1]=32):blk o.data.toList (c :: r)=blk o.data.toList r:=by
 rw [blk,if_pos]
 refine ⟨h1,?_⟩
 rcases h2 with h2 | ⟨h2,h3⟩
 ·exact .inl (empty_nil h2)
 ·exact .inr (by rw [last_at o h2,h3])
theorem blk_push {o:ByteArray} {c d:UInt8} {r:Bs} (hd:und c=d) (h2:d≠32∨∃ h:0<o.size,o[o.size - 1]≠32):blk o.data.toList (c :: r)=blk (o ++ ⟨#[d]⟩).data.toList r:=by
 rw [blk,if_neg,push_list,hd]
 rw [hd]
 rintro ⟨h1,h3⟩
 rcases h2 with h2 | ⟨h2,h4⟩
 ·exact h2 h1
 ·rcases h3 with h3 | h3
  ·exact ne_nil h2 h3
  ·rw [last_at o h2] at h3
   exact h4 (Option.some.inj h3)
theorem und_id {c:UInt8} (h:c≠95):und c=c:=by unfold und;rw [if_neg h]
set_option maxRecDepth 100000 in
set_option maxHeartbeats 8000000 in
theorem blanks_ok (s:ByteArray) (w:World) (hs:s.size<4294960000):Calls Tryz.prog 385 #[.string s] w (RetB (.string ⟨(blanks s.data.toList).toArray⟩) w):=by
 have hb:blanks s.data.toList=chop (blk [] s.data.toList):=rfl
 have HB:=Lib.hid hb
 clear hb
 have hsl:=slice_one s
 go_enter Tryz.func385,Tryz.ntmps385
 go_wp2
 go_loopw [3,4] (fun v i wr=>∃ (k:Nat) (o:ByteArray),k≤s.size∧v=.string o∧i=.int .i64 k∧Below w.heap.size w wr∧o.size≤k∧blk [] s.data.toList=blk o.data.toList (s.data.toList.drop k)) (fun _ i _=>s.size - (intOf i).toNat)
 case atStart=>exact ⟨0,⟨#[]⟩,Nat.zero_le _,rfl,rfl,Below.refl _ _,Nat.le_refl _,rfl⟩
 case round =>
  obtain ⟨k,o,hk,rfl,rfl,hW,ho,hI⟩:=hrel
  by_cases hlt:k<s.size
  ·have hx:=hsl k hlt
   rw [drop_one s k hlt] at hI
   by_cases h95:s[k]=95
   ·have f1:(s[k] == 95)=true:=by simpa using h95
    have hu:und s[k]=32:=by rw [h95];rfl
    clear hsl h95
    by_cases h0:0<o.size
    ·have f2:=empty_f h0
     by_cases hl:o[o.size - 1]=32
     ·have f3:((o[o.size - 1].toNat:Int) == 32)=true:=by rw [hl];rfl
      have HI:=Lib.hid (hI.trans (blk_skip hu (.inr ⟨h0,hl⟩)))
      clear hI hl hu
      go_wp2
      go_roundw
      case rel=>exact ⟨k+1,o,by omega,rfl,by go_num,hW,by omega,HI.out⟩
      case measure=>simp [intOf];omega
     ·have f3:((o[o.size - 1].toNat:Int) == 32)=false:=beq_no hl
      have HI:=Lib.hid (hI.trans (blk_push hu (.inr ⟨h0,hl⟩)))
      clear hI hl hu
      go_wp2
      go_roundw
      case rel=>exact ⟨k+1,o ++ ⟨#[32]⟩,by omega,rfl,by go_num,hW,by rw [ByteArray.size_append];show o.size+1≤_;omega,HI.out⟩
      case measure=>simp [intOf];omega
    ·have f2:=empty_t h0
     have HI:=Lib.hid (hI.trans (blk_skip hu (.inl h0)))
     clear hI hu h0
     go_wp2
     go_roundw
     case rel=>exact ⟨k+1,o,by omega,rfl,by go_num,hW,by omega,HI.out⟩
     case measure=>simp [intOf];omega
   ·have f1:(s[k] == 95)=false:=by simpa using h95
    have hu:=und_id h95
    clear hsl h95
    by_cases h32:s[k]=32
    ·have f0:(s[k] == 32)=true:=by simpa using h32
     rw [h32] at hu
     have hu2:und s[k]=32:=by rw [h32];exact hu
     clear hu h32
     by_cases h0:0<o.size
     ·have f2:=empty_f h0
      by_cases hl:o[o.size - 1]=32
      ·have f3:((o[o.size - 1].toNat:Int) == 32)=true:=by rw [hl];rfl
       have HI:=Lib.hid (hI.trans (blk_skip hu2 (.inr ⟨h0,hl⟩)))
       clear hI hl hu2
       go_wp2
       go_roundw
       case rel=>exact ⟨k+1,o,by omega,rfl,by go_num,hW,by omega,HI.out⟩
       case measure=>simp [intOf];omega
      ·have f3:((o[o.size - 1].toNat:Int) == 32)=false:=beq_no hl
       have hk32:s[k]=32:=by simpa using f0
       have HI:=Lib.hid (hI.trans (blk_push (d:=s[k]) (by rw [hu2,hk32]) (.inr ⟨h0,hl⟩)))
       clear hI hl hu2 hk32
       go_wp2
       go_roundw
       case rel=>exact ⟨k+1,o ++ ⟨#[s[k]]⟩,by omega,rfl,by go_num,hW,by rw [ByteArray.size_append];show o.size+1≤_;omega,HI.out⟩
       case measure=>simp [intOf];omega
     ·have f2:=empty_t h0
      have HI:=Lib.hid (hI.trans (blk_skip hu2 (.inl h0)))
      clear hI hu2 h0
      go_wp2
      go_roundw
      case rel=>exact ⟨k+1,o,by omega,rfl,by go_num,hW,by omega,HI.out⟩
      case measure=>simp [intOf];omega
    ·have f0:(s[k] == 32)=false:=by simpa using h32
     have HI:=Lib.hid (hI.trans (blk_push hu (.inl h32)))
     clear hI hu h32
     go_wp2
     go_roundw
     case rel=>exact ⟨k+1,o ++ ⟨#[s[k]]⟩,by omega,rfl,by go_num,hW,by rw [ByteArray.size_append];show o.size+1≤_;omega,HI.out⟩
     case measure=>simp [intOf];omega
  ·rw [List.drop_of_length_le (by rw [← size_len];omega)] at hI
   have hI:blk [] s.data.toList=o.data.toList:=hI
   have hIB:=HB.out
   rw [hI] at hIB
   clear hI hsl HB
   by_cases h0:0<o.size
   ·have hsi:=slice_init o h0
    by_cases hl:o[o.size - 1]=32
    ·have f3:((o[o.size - 1].toNat:Int) == 32)=true:=by rw [hl];rfl
     have HI:=Lib.hid (hIB.trans (chop_hit h0 hl))
     clear hIB hl
     go_wp2
     go_ret
     exact ⟨by rw [HI.out];rfl,hW⟩
    ·have f3:((o[o.size - 1].toNat:Int) == 32)=false:=beq_no hl
     have HI:=Lib.hid (hIB.trans (chop_miss h0 hl))
     clear hIB hl
     go_wp2
     go_ret
     exact ⟨by rw [HI.out];rfl,hW⟩
   ·have HI:=Lib.hid (hIB.trans (chop_empty h0))
    clear hIB
    go_wp2
    go_ret
    exact ⟨by rw [HI.out];rfl,hW⟩
end Go.Proofs
namespace Go.Proofs
open Go.RowKit Go.Sp
theorem same_map (a b:ByteArray):(decide (a.size=b.size) && sameFrom a b 0)=(a.data.toList.map low == b.data.toList.map low):=by
 unfold sameFrom
 rw [List.drop_zero,List.drop_zero]
 cases h:(a.data.toList.map low == b.data.toList.map low) with
 | false=>rw [Bool.and_false]
 | true =>
  have:=congrArg List.length (beq_iff_eq.1 h)
  rw [List.length_map,List.length_map,← size_len,← size_len] at this
  rw [decide_eq_true this];rfl
set_option maxRecDepth 100000 in
set_option maxHeartbeats 4000000 in
theorem prefixed_ok (l:Bs) (w:World) (hs:l.length<4294960000):Calls Tryz.prog 72 #[.string ⟨l.toArray⟩] w (RetB (.tuple #[.int .i64 ((prefR l).1:Nat),.int .i64 ((prefR l).2:Nat)]) w):=by
 have hI:=fun W=>indexR_ok ⟨l.toArray⟩ 58 W hs
 have hp:prefR l=if Lib.index l [58]<0 then (0,0) else match spaceOf (chop (l.take (Lib.index l [58]).toNat)) with
  | some n=>(n,(Lib.index l [58]).toNat)
  | none=>(0,0):=rfl
 by_cases hx:Lib.index l [58]<0
 ·have HP:=Lib.hid (show prefR l=(0,0) by rw [hp,if_pos hx])
  change ∀ W,Calls _ _ _ _ (RetB (.int .i64 (Lib.index l [58])) W) at hI
  generalize Lib.index l [58]=z at *
  clear hp
  go_enter Tryz.func72,Tryz.ntmps72
  go_wp2_with (go_at_call 70;refine (hI _).mono ?_)
  rintro e W1 ⟨rfl,b1⟩
  go_wp2
  go_ret2
  exact ⟨by rw [HP.out];rfl,b1⟩
 ·have hle:=Lib.index_le l [58]
  rw [if_neg hx] at hp
  obtain ⟨j,hj⟩:∃ j:Nat,Lib.index l [58]=j:=⟨(Lib.index l [58]).toNat,by omega⟩
  change ∀ W,Calls _ _ _ _ (RetB (.int .i64 (Lib.index l [58])) W) at hI
  rw [hj] at hI hle hp
  rw [Int.toNat_natCast] at hp
  have hjl:j≤l.length:=by omega
  have hsl:=slice_to l j hjl
  have HP:=Lib.hid hp
  have htl:(l.take j).length≤l.length:=by rw [List.length_take];omega
  clear hx hj hp hle
  generalize l.take j=p at *
  obtain ⟨ps,hps⟩:∃ ps:ByteArray,ps=⟨p.toArray⟩:=⟨_,rfl⟩
  have hpd:p=ps.data.toList:=by rw [hps]
  subst hpd
  rw [← hps] at hsl
  rw [← size_len] at htl
  clear hps
  obtain ⟨q,hq⟩:∃ q:ByteArray,q.data.toList=chop ps.data.toList:=⟨⟨(chop ps.data.toList).toArray⟩,rfl⟩
  have HQ:=Lib.hid hq
  have hN:=fun n hn W=>spaceName_ok n hn W
  have hM:∀ (n:Nat) W,n<6→Calls Tryz.prog 103 #[.string q,.string ⟨(nms.getD n []).toArray⟩] W (RetB (.bool (q.data.toList.map low == (nms.getD n []).map low)) W):=fun n W _=>by
   have hq2:q.size≤ps.size:=by
    rw [size_len,hq,size_len]
    unfold chop
    split
    ·rw [List.length_dropLast];omega
    ·exact Nat.le_refl _
   have h2:=same_ok q ⟨(nms.getD n []).toArray⟩ W (by unfold maxLen;omega) (by rw [lsize];have:=nms_len n;unfold maxLen;omega)
   rw [same_map] at h2
   exact h2
  have hend:∀ n:Nat,n<6→0<n→(q.data.toList.map low == (nms.getD n []).map low)=true→(∀ i:Nat,0<i→i<n→(q.data.toList.map low == (nms.getD i []).map low)=false)→prefR l=(n,j):=fun n h1 h2 h3 h4=>by
   rw [HP.out,← hq,spaceOf_some (by omega) h3 h4]
  have hnone:(∀ i:Nat,0<i→i<6→(q.data.toList.map low == (nms.getD i []).map low)=false)→prefR l=(0,0):=fun h4=>by
   rw [HP.out,← hq,spaceOf_none h4]
  have HE:=Lib.hid hend
  have HN:=Lib.hid hnone
  clear hq hend hnone
  by_cases h0:0<ps.size
  ·have hsi:=slice_init ps h0
   by_cases hl:ps[ps.size - 1]=32
   ·have f3:((ps[ps.size - 1].toNat:Int) == 32)=true:=by rw [hl];rfl
    have hqe:(⟨ps.data.toList.dropLast.toArray⟩:ByteArray)=q:=bytes_ext (by rw [HQ.out,chop_hit h0 hl])
    rw [hqe] at hsi
    clear hl hqe
    go_enter Tryz.func72,Tryz.ntmps72
    go_wp2_with (go_at_call 70;refine (hI _).mono ?_)
    rintro e W1 ⟨rfl,b1⟩
    go_wp2
    go_loopw [6] (fun i wr=>∃ n:Nat,n<7∧0<n∧i=.int .i64 n∧Below w.heap.size w wr∧∀ i:Nat,0<i→i<n→(q.data.toList.map low == (nms.getD i []).map low)=false) (fun i _=>6 - (intOf i).toNat)
    case atStart=>exact ⟨1,by decide,by decide,rfl,b1,fun i h1 h2=>by omega⟩
    case round =>
     obtain ⟨n,hn7,hn0,rfl,hB,hj⟩:=hrel
     have HJ:=Lib.hid hj
     clear hj
     by_cases hn:n<6
     ·have hN1:=hN n hn
      have hM1:=fun W=>hM n W hn
      cases hm:(q.data.toList.map low == (nms.getD n []).map low) with
      | true =>
       rw [hm] at hM1
       have HR:=Lib.hid (HE.out n hn hn0 hm HJ.out)
       clear hm hN hM
       generalize nms.getD n []=nm at *
       go_wp2_with (go_at_call 47;refine (hN1 _).mono ?_)
       rintro e W2 ⟨rfl,b2⟩
       go_wp2_with (go_at_call 103;refine (hM1 _).mono ?_)
       rintro e W3 ⟨rfl,b3⟩
       go_wp2
       go_ret2
       exact ⟨by rw [HR.out];rfl,(hB.trans (b2.mono hB.size)).trans (b3.mono (Nat.le_trans hB.size b2.size))⟩
      | false =>
       rw [hm] at hM1
       have HM:=Lib.hid hm
       clear hm hN hM
       generalize hnm:nms.getD n []=nm at *
       have HNM:=Lib.hid hnm
       clear hnm
       go_wp2_with (go_at_call 47;refine (hN1 _).mono ?_)
       rintro e W2 ⟨rfl,b2⟩
       go_wp2_with (go_at_call 103;refine (hM1 _).mono ?_)
       rintro e W3 ⟨rfl,b3⟩
       go_wp2
       go_roundw
       case rel=>exact ⟨n+1,by omega,by omega,by go_num,(hB.trans (b2.mono hB.size)).trans (b3.mono (Nat.le_trans hB.size b2.size)),fun i h1 h2=>by
        by_cases e:i=n
        ·rw [e,HNM.out];exact HM.out
        ·exact HJ.out i h1 (by omega)⟩
       case measure=>simp [intOf];omega
     ·have HR:=Lib.hid (HN.out (fun i h1 h2=>HJ.out i h1 (by omega)))
      clear hN hM
      go_wp2
      go_ret2
      exact ⟨by rw [HR.out];rfl,hB⟩
   ·have f3:((ps[ps.size - 1].toNat:Int) == 32)=false:=beq_no hl
    obtain rfl:ps=q:=bytes_ext (by rw [HQ.out,chop_miss h0 hl])
    clear hl
    go_enter Tryz.func72,Tryz.ntmps72
    go_wp2_with (go_at_call 70;refine (hI _).mono ?_)
    rintro e W1 ⟨rfl,b1⟩
    go_wp2
    go_loopw [6] (fun i wr=>∃ n:Nat,n<7∧0<n∧i=.int .i64 n∧Below w.heap.size w wr∧∀ i:Nat,0<i→i<n→(ps.data.toList.map low == (nms.getD i []).map low)=false) (fun i _=>6 - (intOf i).toNat)
    case atStart=>exact ⟨1,by decide,by decide,rfl,b1,fun i h1 h2=>by omega⟩
    case round =>
     obtain ⟨n,hn7,hn0,rfl,hB,hj⟩:=hrel
     have HJ:=Lib.hid hj
     clear hj
     by_cases hn:n<6
     ·have hN1:=hN n hn
      have hM1:=fun W=>hM n W hn
      cases hm:(ps.data.toList.map low == (nms.getD n []).map low) with
      | true =>
       rw [hm] at hM1
       have HR:=Lib.hid (HE.out n hn hn0 hm HJ.out)
       clear hm hN hM
       generalize nms.getD n []=nm at *
       go_wp2_with (go_at_call 47;refine (hN1 _).mono ?_)
       rintro e W2 ⟨rfl,b2⟩
       go_wp2_with (go_at_call 103;refine (hM1 _).mono ?_)
       rintro e W3 ⟨rfl,b3⟩
       go_wp2
       go_ret2
       exact ⟨by rw [HR.out];rfl,(hB.trans (b2.mono hB.size)).trans (b3.mono (Nat.le_trans hB.size b2.size))⟩
      | false =>
       rw [hm] at hM1
       have HM:=Lib.hid hm
       clear hm hN hM
       generalize hnm:nms.getD n []=nm at *
       have HNM:=Lib.hid hnm
       clear hnm
       go_wp2_with (go_at_call 47;refine (hN1 _).mono ?_)
       rintro e W2 ⟨rfl,b2⟩
       go_wp2_with (go_at_call 103;refine (hM1 _).mono ?_)
       rintro e W3 ⟨rfl,b3⟩
       go_wp2
       go_roundw
       case rel=>exact ⟨n+1,by omega,by omega,by go_num,(hB.trans (b2.mono hB.size)).trans (b3.mono (Nat.le_trans hB.size b2.size)),fun i h1 h2=>by
        by_cases e:i=n
        ·rw [e,HNM.out];exact HM.out
        ·exact HJ.out i h1 (by omega)⟩
       case measure=>simp [intOf];omega
     ·have HR:=Lib.hid (HN.out (fun i h1 h2=>HJ.out i h1 (by omega)))
      clear hN hM
      go_wp2
      go_ret2
      exact ⟨by rw [HR.out];rfl,hB⟩
  ·obtain rfl:ps=q:=bytes_ext (by rw [HQ.out,chop_empty h0])
   go_enter Tryz.func72,Tryz.ntmps72
   go_wp2_with (go_at_call 70;refine (hI _).mono ?_)
   rintro e W1 ⟨rfl,b1⟩
   go_wp2
   go_loopw [6] (fun i wr=>∃ n:Nat,n<7∧0<n∧i=.int .i64 n∧Below w.heap.size w wr∧∀ i:Nat,0<i→i<n→(ps.data.toList.map low == (nms.getD i []).map low)=false) (fun i _=>6 - (intOf i).toNat)
   case atStart=>exact ⟨1,by decide,by decide,rfl,b1,fun i h1 h2=>by omega⟩
   case round =>
    obtain ⟨n,hn7,hn0,rfl,hB,hj⟩:=hrel
    have HJ:=Lib.hid hj
    clear hj
    by_cases hn:n<6
    ·have hN1:=hN n hn
     have hM1:=fun W=>hM n W hn
     cases hm:(ps.data.toList.map low == (nms.getD n []).map low) with
     | true =>
      rw [hm] at hM1
      have HR:=Lib.hid (HE.out n hn hn0 hm HJ.out)
      clear hm hN hM
      generalize nms.getD n []=nm at *
      go_wp2_with (go_at_call 47;refine (hN1 _).mono ?_)
      rintro e W2 ⟨rfl,b2⟩
      go_wp2_with (go_at_call 103;refine (hM1 _).mono ?_)
      rintro e W3 ⟨rfl,b3⟩
      go_wp2
      go_ret2
      exact ⟨by rw [HR.out];rfl,(hB.trans (b2.mono hB.size)).trans (b3.mono (Nat.le_trans hB.size b2.size))⟩
     | false =>
      rw [hm] at hM1
      have HM:=Lib.hid hm
      clear hm hN hM
      generalize hnm:nms.getD n []=nm at *
      have HNM:=Lib.hid hnm
      clear hnm
      go_wp2_with (go_at_call 47;refine (hN1 _).mono ?_)
      rintro e W2 ⟨rfl,b2⟩
      go_wp2_with (go_at_call 103;refine (hM1 _).mono ?_)
      rintro e W3 ⟨rfl,b3⟩
      go_wp2
      go_roundw
      case rel=>exact ⟨n+1,by omega,by omega,by go_num,(hB.trans (b2.mono hB.size)).trans (b3.mono (Nat.le_trans hB.size b2.size)),fun i h1 h2=>by
       by_cases e:i=n
       ·rw [e,HNM.out];exact HM.out
       ·exact HJ.out i h1 (by omega)⟩
      case measure=>simp [intOf];omega
    ·have HR:=Lib.hid (HN.out (fun i h1 h2=>HJ.out i h1 (by omega)))
     clear hN hM
     go_wp2
     go_ret2
     exact ⟨by rw [HR.out];rfl,hB⟩
end Go.Proofs
namespace Go.Proofs
open Go.RowKit Go.Sp
theorem splitL_snoc_hit (c:UInt8):∀ l:Bs,splitL c (l ++ [c])=splitL c l ++ [[]]
 | []=>by rw [List.nil_append,splitL_hit];rfl
 | y :: r=>by
  by_cases h:y=c
  ·subst h
   rw [List.cons_append,splitL_hit,splitL_hit,splitL_snoc_hit y r];rfl
  ·obtain ⟨p,ps,hp⟩:=splitL_cons c r
   rw [List.cons_append,splitL_miss h hp,splitL_miss h (show splitL c (r ++ [c])=p :: (ps ++ [[]]) by rw [splitL_snoc_hit c r,hp];rfl)];rfl
theorem splitL_snoc_miss {c x:UInt8} (hx:x≠c):∀ {l:Bs} {ini:List Bs} {last:Bs},splitL c l=ini ++ [last]→splitL c (l ++ [x])=ini ++ [last ++ [x]]
 | [],ini,last,h=>by
  have h:[[]]=ini ++ [last]:=h
  cases ini with
  | nil =>
   obtain rfl:[]=last:=by simpa using h
   rw [List.nil_append,splitL_miss hx (show splitL c []=[] :: [] from rfl)];rfl
  | cons a b=>simp at h
 | y :: r,ini,last,h=>by
  by_cases hy:y=c
  ·subst hy
   rw [splitL_hit] at h
   cases ini with
   | nil =>
    obtain ⟨p,ps,hp⟩:=splitL_cons y r
    rw [hp] at h
    simp at h
   | cons a b =>
    obtain ⟨h1,h2⟩:=List.cons.inj h
    rw [List.cons_append,splitL_hit,splitL_snoc_miss hx h2,← h1];rfl
  ·obtain ⟨p,ps,hp⟩:=splitL_cons c r
   rw [splitL_miss hy hp] at h
   cases ini with
   | nil =>
    obtain ⟨h1,h2⟩:=List.cons.inj h
    have:=splitL_snoc_miss hx (l:=r) (ini:=[]) (last:=p) (by rw [hp,h2];rfl)
    rw [List.cons_append,splitL_miss hy this,← h1];rfl
   | cons a b =>
    obtain ⟨h1,h2⟩:=List.cons.inj h
    have:=splitL_snoc_miss hx (l:=r) (ini:=p :: b) (last:=last) (by rw [hp,h2];rfl)
    rw [List.cons_append,splitL_miss hy this,← h1];rfl
def RetO (L:List Bs) (w:World) (e:Ending) (w':World):Prop:=Below w.heap.size w w'∧∃ v,e=.returned v∧w'.ownsRow w.heap.size 9 1 v L.length (strs L)
theorem owns_succ {w:World} {base e size k:Nat} {v:Value} {xs:List Value} (h:w.ownsRow base e size v (k+1) xs):∃ g cap,v=.slice (some ⟨g,0,none⟩) (k+1) cap∧base≤g:=by
 rcases h.2 with ⟨_,h⟩ | ⟨g,cap,cur,rfl,hb,_⟩
 ·cases h
 ·exact ⟨g,cap,rfl,hb⟩
theorem strs_len (L:List Bs):(strs L).length=L.length:=List.length_map _
theorem strs_at {L:List Bs} {j:Nat} (h:j<L.length):(strs L)[j]? = some (.string ⟨(L.getD j []).toArray⟩):=by
 unfold strs
 rw [List.getElem?_map,List.getElem?_eq_getElem h,List.getD_eq_getElem?_getD,List.getElem?_eq_getElem h];rfl
theorem getD_last (ini:List Bs) (last:Bs):(ini ++ [last]).getD ini.length []=last:=by
 rw [List.getD_eq_getElem?_getD,List.getElem?_append_right (Nat.le_refl _),Nat.sub_self];rfl
theorem strs_set (ini:List Bs) (a b:Bs):(strs (ini ++ [a])).set ini.length (.string ⟨b.toArray⟩)=strs (ini ++ [b]):=by
 rw [strs_snoc,strs_snoc,List.set_append_right _ _ (by rw [strs_len];exact Nat.le_refl _),strs_len,Nat.sub_self];rfl
structure PtR (s:ByteArray) (w wr:World) (k:Nat) (v:Value) (ini:List Bs) (last:Bs):Prop where
 below:Below w.heap.size w wr
 row:wr.ownsRow w.heap.size 9 1 v (ini.length+1) (strs (ini ++ [last]))
 eq:splitL 47 (s.data.toList.take k)=ini ++ [last]
 len:ini.length≤k
 last:last.length≤k
theorem PtR.drew {s:ByteArray} {w wr:World} {k:Nat} {v:Value} {ini:List Bs} {last:Bs} (h:PtR s w wr k v ini last):PtR s w wr.drew k v ini last:=⟨h.below.drew,h.row.drew,h.eq,h.len,h.last⟩
set_option maxRecDepth 100000 in
set_option maxHeartbeats 4000000 in
theorem parts_ok' (s:ByteArray) (w:World) (hs:s.size<4294960000):Calls Tryz.prog 71 #[.string s] w (RetO (splitL 47 s.data.toList) w):=by
 obtain ⟨i0,hi,hz0,hz1,hz2⟩:=info_parts info9
 have h0:PtR s w (w.alloc (.cells #[.string ⟨#[]⟩] 9)) 0 (.slice (some ⟨w.heap.size,0,none⟩) 1 1) [] []:=⟨(Below.refl _ w).alloc (Nat.le_refl _) _,World.ownsRow_lit w #[.string ⟨#[]⟩] 1 (Nat.le_refl _) (by decide) rfl,rfl,Nat.le_refl _,Nat.le_refl _⟩
 go_enter Tryz.func71,Tryz.ntmps71
 go_wp2
 go_loopw [3,4] (fun v i wr=>∃ (k:Nat) (ini:List Bs) (last:Bs),k≤s.size∧i=.int .i64 k∧PtR s w wr k v ini last) (fun _ i _=>s.size - (intOf i).toNat)
 case atStart=>exact ⟨0,[],[],Nat.zero_le _,rfl,h0⟩
 case round =>
  obtain ⟨k,ini,last,hk,rfl,hR⟩:=hrel
  obtain ⟨g,cap,rfl,hbg⟩:=owns_succ hR.row
  have hln:=hR.len
  have hla:=hR.last
  have hz:=hR.below.size
  by_cases hlt:k<s.size
  ·by_cases hc:s[k]=47
   ·have f1:((s[k].toNat:Int) == 47)=true:=by rw [hc];rfl
    have heq:splitL 47 (s.data.toList.take (k+1))=(ini ++ [last]) ++ [[]]:=by rw [take_snoc s k hlt,hc,splitL_snoc_hit,hR.eq]
    have HE:=Lib.hid heq
    clear heq hc
    go_wp2_with (at_builtin;refine wpList_append_own _ rfl _ _ 60 rfl w.heap.size 9 i0 _ 1 16 und60 hi hz0 hz1 hz2 rfl (by decide) _ (ini.length+1) (strs (ini ++ [last])) rfl (hR.row.alloc _) ⟨wr.heap.size,0,none⟩ 1 1 [.string ⟨#[]⟩] rfl rfl (cell_new _ _ _) (fun u hu=>by rw [List.mem_singleton.1 hu];rfl) (by unfold maxLen;omega) (by omega) (by simp;omega) ?_;intro v1 w1 hown1 hgrow1 _hnil)
    have hR1:PtR s w w1 (k+1) v1 (ini ++ [last]) []:=⟨(hR.below.alloc hz _).grown hgrow1 (by simp;omega) (fun b h=>owns_base hR.row b h),by rw [strs_snoc (ini ++ [last]),List.length_append];exact hown1,HE.out,by rw [List.length_append,List.length_singleton];omega,Nat.zero_le _⟩
    clear hR hown1 hgrow1 _hnil
    go_roundw
    case rel=>exact ⟨k+1,_,_,by omega,by go_num,hR1⟩
    case measure=>simp [intOf];omega
   ·have f1:((s[k].toNat:Int) == 47)=false:=beq_no hc
    have heq:splitL 47 (s.data.toList.take (k+1))=ini ++ [last ++ [s[k]]]:=by rw [take_snoc s k hlt];exact splitL_snoc_miss hc hR.eq
    have HE:=Lib.hid heq
    have hsl:=slice_one s k hlt
    have c0:=(hR.row.cellAt ini.length (by omega)).trans ((strs_at (by simp)).trans (by rw [getD_last]))
    have z0:=hR.row.frozenAt ini.length
    clear heq hc
    have hst:=hR.row.stored ini.length (.string ⟨(last ++ [s[k]]).toArray⟩)
    rw [strs_set] at hst
    have hR1:PtR s w (wr.setCell ⟨g,ini.length,none⟩ (.string ⟨(last ++ [s[k]]).toArray⟩)) (k+1) (.slice (some ⟨g,0,none⟩) (ini.length+1) cap) ini (last ++ [s[k]]):=⟨hR.below.setCell (p:=⟨g,ini.length,none⟩) hbg _,hst.1,HE.out,by omega,by rw [List.length_append,List.length_singleton];omega⟩
    have hll:(⟨last.toArray⟩:ByteArray).size≤k:=hla
    have hcat:(⟨last.toArray⟩:ByteArray) ++ ⟨#[s[k]]⟩=⟨(last ++ [s[k]]).toArray⟩:=cat_eq last [s[k]]
    clear hst HE hR
    generalize (⟨(last ++ [s[k]]).toArray⟩:ByteArray)=nw at *
    generalize (⟨last.toArray⟩:ByteArray)=ol at *
    generalize ini.length=m at *
    go_upto_region 7 with fail
    go_region
    go_wp2
    go_roundw
    case rel=>exact ⟨k+1,_,_,by omega,by go_num,hR1.drew⟩
    case measure=>simp [intOf];omega
  ·have heq:=hR.eq
   rw [List.take_of_length_le (by rw [← size_len];omega)] at heq
   have hrow:=hR.row
   have hb:=hR.below
   have HE:=Lib.hid heq
   clear hR heq h0
   go_wp2
   go_ret
   exact ⟨hb,_,rfl,by rw [HE.out,List.length_append];exact hrow⟩
end Go.Proofs
