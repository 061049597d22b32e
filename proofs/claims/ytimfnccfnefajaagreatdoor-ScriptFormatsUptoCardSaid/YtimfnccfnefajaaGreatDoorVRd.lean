/- A part of the proof: Rl, Rn, Ro, Rp -/
import Derived.Test.YtimfnccfnefajaaGreatDoorVRa
import Derived.Test.YtimfnccfnefajaaGreatDoorVWb
import Derived.Deep.RegionHeld3
import Derived.Test.YtimfnccfnefajaaGreatDoorVRc
import Derived.Test.YtimfnccfnefajaaGreatDoorVWf
set_option linter.unusedSimpArgs false
set_option linter.unusedVariables false
namespace Go.Proofs
open Go.RowKit Go.Sp
theorem dec_push {s:ByteArray} {k:Nat} {acc:Bs} (h:dec none s.data.toList=(dec none (s.data.toList.drop k)).map (acc ++ ·)) (hk:k<s.size) (hc:s[k]≠126) :
 dec none s.data.toList=(dec none (s.data.toList.drop (k+1))).map ((acc ++ [if s[k]=95 then 32 else s[k]]) ++ ·):=by
 rw [h,drop_one s k hk,dec_plain _ hc,Option.map_map]
 congr 1
 funext x
 simp
theorem dec_tild {s:ByteArray} {k:Nat} {acc:Bs} (h:dec none s.data.toList=(dec none (s.data.toList.drop k)).map (acc ++ ·)) (hk:k+1<s.size) (hc:s[k]=126) :
 dec none s.data.toList=(unesc s[k+1]).bind fun y=>(dec none (s.data.toList.drop (k+2))).map ((acc ++ [y]) ++ ·):=by
 rw [h,drop_one s k (by omega),drop_one s (k+1) hk,hc,dec_tilde]
 cases unesc s[k+1] with
 | none=>rfl
 | some y =>
  simp only [Option.bind_some,Option.map_map]
  congr 1
  funext x
  simp
theorem dec_last {s:ByteArray} {k:Nat} {acc:Bs} (h:dec none s.data.toList=(dec none (s.data.toList.drop k)).map (acc ++ ·)) (hk:k<s.size) (he:¬ k+1<s.size) (hc:s[k]=126):dec none s.data.toList=none:=by
 rw [h,drop_one s k hk,List.drop_of_length_le (by rw [← size_len];omega),hc]
 rfl
structure TxR (s:ByteArray) (w wr:World) (k:Nat) (v:Value) (acc:Bs):Prop where
 below:Below w.heap.size w wr
 row:wr.ownsRow w.heap.size 5 1 v acc.length (byts acc)
 len:acc.length≤k
 eq:dec none s.data.toList=(dec none (s.data.toList.drop k)).map (acc ++ ·)
theorem TxR.push {s:ByteArray} {w wr w1:World} {k j:Nat} {v v1:Value} {acc:Bs} {c:UInt8} {o:Obj} (h:TxR s w wr k v acc) (hj:k<j) (he:dec none s.data.toList=(dec none (s.data.toList.drop j)).map ((acc ++ [c]) ++ ·)) (ho:w1.ownsRow w.heap.size 5 1 v1 (acc.length+1) (byts acc ++ [.int .u8 c.toNat])) (hg:(wr.alloc o).grownBy w1 v.ownBlock):TxR s w w1 j v1 (acc ++ [c]):=by
 have hs:=h.below.size
 refine ⟨(h.below.alloc hs _).grown hg (by simp;omega) (fun b hh=>owns_base h.row b hh),?_,by rw [List.length_append,List.length_singleton];have:=h.len;omega,he⟩
 rw [List.length_append,byts_app]
 exact ho
def RetX (w:Bs) (W:World) (e:Ending) (W':World):Prop:=e=.returned (.tuple #[.string ⟨(textR w).1.toArray⟩,.bool (textR w).2])∧Below W.heap.size W W'
theorem dec_nlen:∀ (n:Nat) (s b:Bs),s.length≤n→dec none s=some b→b.length≤s.length
 | _,[],b,_,h=>by obtain rfl:=Option.some.inj (show some []=some b from h);exact Nat.le_refl _
 | 0,_ :: _,_,hn,_=>by cases hn
 | n+1,c :: r,b,hn,h=>by
  simp only [List.length_cons] at hn
  by_cases hc:c=126
  ·subst hc
   cases r with
   | nil=>cases h
   | cons x r =>
    rw [dec_tilde] at h
    obtain ⟨y,_,h⟩:=Option.bind_eq_some_iff.1 h
    obtain ⟨b2,h2,rfl⟩:=Option.map_eq_some_iff.1 h
    simp only [List.length_cons] at hn
    have:=dec_nlen n r b2 (by omega) h2
    simp only [List.length_cons];omega
  ·rw [dec_plain _ hc] at h
   obtain ⟨b2,h2,rfl⟩:=Option.map_eq_some_iff.1 h
   have:=dec_nlen n r b2 (by omega) h2
   simp only [List.length_cons];omega
theorem textR_len (w:Bs):(textR w).1.length≤w.length:=by
 unfold textR
 split
 ·exact Nat.zero_le _
 ·split
  ·rename_i h;rw [h];decide
  ·split
   ·exact Nat.zero_le _
   ·rename_i b h
    exact dec_nlen _ w b (Nat.le_refl _) h
theorem convAny {w:World} {base:Nat} {v:Value} {l:Bs} (h:w.ownsRow base 5 1 v l.length (byts l)):(convert 91 9 v).run Tryz.prog w=.ok (.string ⟨l.toArray⟩) w:=by
 by_cases hl:0<l.length
 ·exact convB hl h
 ·obtain rfl:l=[]:=List.eq_nil_of_length_eq_zero (by omega)
  rcases h.2 with ⟨rfl,_⟩ | ⟨g,cap,cur,rfl,_⟩
  ·exact run_convert_bytes_nil w 91 5 und91 und5 0 0 9 und9s
  ·exact run_convert_bytes_arg w 91 5 und91 und5 g 0 0 cap [] (by simp) (fun i hi=>by omega) 9 und9s
abbrev CvS (w:World) (v:Value) (l:Bs) (W:World):Prop:=(convert 91 9 v).run Tryz.prog W=.ok (.string ⟨l.toArray⟩) W∧W.ownsRow w.heap.size 5 1 v l.length (byts l)∧Below w.heap.size w W
theorem cv_start {w W:World} {v:Value} {l:Bs} (h:W.ownsRow w.heap.size 5 1 v l.length (byts l)) (b:Below w.heap.size w W):CvS w v l W:=⟨convAny h,h,b⟩
theorem cv_drew {w W:World} {v:Value} {l:Bs} (h:CvS w v l W):CvS w v l W.drew:=cv_start h.2.1.drew h.2.2.drew
theorem word_held {w:World} {v:Value} (l:Bs) (hl:l.length<4294960000) (W:World) (h:CvS w v l W):Calls Tryz.prog 87 #[.string ⟨l.toArray⟩] W fun e w'=>e=.returned (.string ⟨(wr l).toArray⟩)∧CvS w v l w' :=
 (Word_ok ⟨l.toArray⟩ W hl).mono fun _ _ he=>⟨he.1,cv_start (owns_below h.2.1 he.2) (h.2.2.trans (he.2.mono h.2.2.size))⟩
set_option maxRecDepth 100000 in
set_option maxHeartbeats 8000000 in
theorem textR_ok (s:ByteArray) (w:World) (hs:s.size<2147480000):Calls Tryz.prog 151 #[.string s] w (RetX s.data.toList w):=by
 obtain ⟨i0,hi,hz0,hz1,hz2⟩:=info_parts info5
 by_cases h1:s.data.toList=[45]
 ·have e1:(s.toList == [45])=true:=by rw [ByteArray.toList_eq,h1];rfl
  have hw:textR s.data.toList=([],true):=by rw [h1];rfl
  have HW:=Lib.hid hw;clear hw h1
  go_enter Tryz.func151,Tryz.ntmps151
  go_wp2
  go_ret2
  exact ⟨by rw [HW.out];rfl,Below.refl _ _⟩
 ·have e1:(s.toList == [45])=false:=by rw [ByteArray.toList_eq];simpa using h1
  by_cases h2:s.data.toList=[126,109]
  ·have e2:(s.toList == [126,109])=true:=by rw [ByteArray.toList_eq,h2];rfl
   have hw:textR s.data.toList=([45],true):=by rw [h2];rfl
   have HW:=Lib.hid hw;clear hw h1 h2
   go_enter Tryz.func151,Tryz.ntmps151
   go_wp2
   go_ret2
   exact ⟨by rw [HW.out];rfl,Below.refl _ _⟩
  ·have e2:(s.toList == [126,109])=false:=by rw [ByteArray.toList_eq];simpa using h2
   have hw:textR s.data.toList=match dec none s.data.toList with
    | none=>([],false)
    | some b=>(b,decide (wr b=s.data.toList)):=by unfold textR;rw [if_neg h1,if_neg h2];rfl
   have HW:=Lib.hid hw;clear hw h1 h2
   go_enter Tryz.func151,Tryz.ntmps151
   go_wp2
   go_loopw [4,5] (fun v i wr=>∃ (k:Nat) (acc:Bs),k≤s.size∧i=.int .i64 k∧TxR s w wr k v acc) (fun _ i _=>s.size - (intOf i).toNat)
   case atStart=>exact ⟨0,[],Nat.zero_le _,rfl,Below.refl _ _,World.ownsRow_nil _ _ _ _,Nat.le_refl _,by simp⟩
   case round =>
    obtain ⟨k,acc,hk,rfl,hR⟩:=hrel
    have hl:=hR.len
    have hz:=hR.below.size
    by_cases hlt:k<s.size
    ·by_cases hc:s[k]=95
     ·have f1:((s[k].toNat:Int) == 95)=true:=by rw [hc];rfl
      have hp:=dec_push hR.eq hlt (by rw [hc];decide)
      rw [if_pos hc] at hp
      have HP:=Lib.hid hp;clear hp hc
      go_wp2_with (at_builtin;refine wpList_append_own _ rfl _ _ 91 rfl w.heap.size 5 i0 _ 1 1 und91 hi hz0 hz1 hz2 rfl (by decide) _ _ _ rfl (hR.row.alloc _) ⟨wr.heap.size,0,none⟩ 1 1 [.int .u8 32] rfl rfl (cell_new _ _ _) (fun u hu=>by rw [List.mem_singleton.1 hu];rfl) (by unfold maxLen;omega) (by omega) (by simp;omega) ?_;intro v1 w1 hown1 hgrow1 _hnil)
      have hR1:=hR.push (Nat.lt_succ_self k) HP.out hown1 hgrow1
      clear hR hown1 hgrow1 _hnil
      go_roundw
      case rel=>exact ⟨k+1,_,by omega,by go_num,hR1⟩
      case measure=>simp [intOf];omega
     ·have f1:((s[k].toNat:Int) == 95)=false:=beq_no hc
      by_cases ht:s[k]=126
      ·have f2:((s[k].toNat:Int) == 126)=true:=by rw [ht];rfl
       by_cases hlt2:k+1<s.size
       ·have hp:=dec_tild hR.eq hlt2 ht
        clear ht hc
        by_cases h110:s[k+1]=110
        ·have g1:((s[k+1].toNat:Int) == 110)=true:=by rw [h110];rfl
         rw [h110] at hp
         have HP:=Lib.hid (show dec none s.data.toList=(dec none (s.data.toList.drop (k+2))).map ((acc ++ [10]) ++ ·) from hp);clear hp h110
         go_wp2_with (at_builtin;refine wpList_append_own _ rfl _ _ 91 rfl w.heap.size 5 i0 _ 1 1 und91 hi hz0 hz1 hz2 rfl (by decide) _ _ _ rfl (hR.row.alloc _) ⟨wr.heap.size,0,none⟩ 1 1 [.int .u8 10] rfl rfl (cell_new _ _ _) (fun u hu=>by rw [List.mem_singleton.1 hu];rfl) (by unfold maxLen;omega) (by omega) (by simp;omega) ?_;intro v1 w1 hown1 hgrow1 _hnil)
         have hR1:=hR.push (by omega) HP.out hown1 hgrow1
         clear hR hown1 hgrow1 _hnil
         go_roundw
         case rel=>exact ⟨k+2,_,by omega,by go_num,hR1⟩
         case measure=>simp [intOf];omega
        by_cases h117:s[k+1]=117
        ·have g1:((s[k+1].toNat:Int) == 110)=false:=beq_no h110
         have g2:((s[k+1].toNat:Int) == 117)=true:=by rw [h117];rfl
         rw [h117] at hp
         have HP:=Lib.hid (show dec none s.data.toList=(dec none (s.data.toList.drop (k+2))).map ((acc ++ [95]) ++ ·) from hp);clear hp h110 h117
         go_wp2_with (at_builtin;refine wpList_append_own _ rfl _ _ 91 rfl w.heap.size 5 i0 _ 1 1 und91 hi hz0 hz1 hz2 rfl (by decide) _ _ _ rfl (hR.row.alloc _) ⟨wr.heap.size,0,none⟩ 1 1 [.int .u8 95] rfl rfl (cell_new _ _ _) (fun u hu=>by rw [List.mem_singleton.1 hu];rfl) (by unfold maxLen;omega) (by omega) (by simp;omega) ?_;intro v1 w1 hown1 hgrow1 _hnil)
         have hR1:=hR.push (by omega) HP.out hown1 hgrow1
         clear hR hown1 hgrow1 _hnil
         go_roundw
         case rel=>exact ⟨k+2,_,by omega,by go_num,hR1⟩
         case measure=>simp [intOf];omega
        by_cases h116:s[k+1]=116
        ·have g1:((s[k+1].toNat:Int) == 110)=false:=beq_no h110
         have g2:((s[k+1].toNat:Int) == 117)=false:=beq_no h117
         have g3:((s[k+1].toNat:Int) == 116)=true:=by rw [h116];rfl
         rw [h116] at hp
         have HP:=Lib.hid (show dec none s.data.toList=(dec none (s.data.toList.drop (k+2))).map ((acc ++ [126]) ++ ·) from hp);clear hp h110 h117 h116
         go_wp2_with (at_builtin;refine wpList_append_own _ rfl _ _ 91 rfl w.heap.size 5 i0 _ 1 1 und91 hi hz0 hz1 hz2 rfl (by decide) _ _ _ rfl (hR.row.alloc _) ⟨wr.heap.size,0,none⟩ 1 1 [.int .u8 126] rfl rfl (cell_new _ _ _) (fun u hu=>by rw [List.mem_singleton.1 hu];rfl) (by unfold maxLen;omega) (by omega) (by simp;omega) ?_;intro v1 w1 hown1 hgrow1 _hnil)
         have hR1:=hR.push (by omega) HP.out hown1 hgrow1
         clear hR hown1 hgrow1 _hnil
         go_roundw
         case rel=>exact ⟨k+2,_,by omega,by go_num,hR1⟩
         case measure=>simp [intOf];omega
        ·have g1:((s[k+1].toNat:Int) == 110)=false:=beq_no h110
         have g2:((s[k+1].toNat:Int) == 117)=false:=beq_no h117
         have g3:((s[k+1].toNat:Int) == 116)=false:=beq_no h116
         have hu:unesc s[k+1]=none:=by unfold unesc;rw [if_neg h110,if_neg h117,if_neg h116]
         rw [hu] at hp
         have HP:=Lib.hid (show dec none s.data.toList=none from hp);clear hp h110 h117 h116 hu
         have hB:=hR.below
         clear hR
         go_wp2
         go_ret2
         exact ⟨by rw [HW.out,HP.out];rfl,hB⟩
       ·have HP:=Lib.hid (dec_last hR.eq hlt hlt2 ht)
        have hB:=hR.below
        have hke:((k:Int)+1 == (s.size:Int))=true:=by rw [beq_iff_eq];omega
        clear hR ht hc
        go_wp2
        go_ret2
        exact ⟨by rw [HW.out,HP.out];rfl,hB⟩
      ·have f2:((s[k].toNat:Int) == 126)=false:=beq_no ht
       have hp:=dec_push hR.eq hlt ht
       rw [if_neg hc] at hp
       have HP:=Lib.hid hp;clear hp hc ht
       go_wp2_with (at_builtin;refine wpList_append_own _ rfl _ _ 91 rfl w.heap.size 5 i0 _ 1 1 und91 hi hz0 hz1 hz2 rfl (by decide) _ _ _ rfl (hR.row.alloc _) ⟨wr.heap.size,0,none⟩ 1 1 [.int .u8 (s[k].toNat:Int)] rfl rfl (cell_new _ _ _) (fun u hu=>by rw [List.mem_singleton.1 hu];rfl) (by unfold maxLen;omega) (by omega) (by simp;omega) ?_;intro v1 w1 hown1 hgrow1 _hnil)
       have hR1:=hR.push (Nat.lt_succ_self k) HP.out hown1 hgrow1
       clear hR hown1 hgrow1 _hnil
       go_roundw
       case rel=>exact ⟨k+1,_,by omega,by go_num,hR1⟩
       case measure=>simp [intOf];omega
    ·have hend:dec none s.data.toList=some acc:=by
      rw [hR.eq,List.drop_of_length_le (by rw [← size_len];omega)]
      simp [dec]
     have hres:textR s.data.toList=(acc,decide (Sp.wr acc=s.data.toList)):=by rw [HW.out,hend]
     have HE:=Lib.hid hres;clear hend hres HW
     have hrow:=hR.row
     have hS0:=cv_start hR.row hR.below
     have hC:=fun (W:World) h=>word_held (w:=w) (v:=u4) acc (by omega) W h
     clear hR hrow
     go_upto_region 25 with fail
     go_region_held3 (fun w'=>(convert 91 9 u4).run Tryz.prog w'=.ok (.string ⟨acc.toArray⟩) w'∧w'.ownsRow w.heap.size 5 1 u4 acc.length (byts acc)∧Below w.heap.size w w') (first | exact hS0 | exact cv_drew hS0 | assumption | go_keep)
      (first | (go_at_call 87;refine (hC _ (by assumption)).mono ?_;rintro e w' ⟨rfl,k⟩))
     have hq:(Sp.wr acc == s.toList)=decide (Sp.wr acc=s.data.toList):=by
      rw [ByteArray.toList_eq,Bool.eq_iff_iff,beq_iff_eq,decide_eq_true_eq]
     go_wp2
     go_ret2
     exact ⟨by rw [HE.out,← hq];rfl,k.2.2⟩
end Go.Proofs
namespace Go.Proofs
open Go.RowKit Go.Sp
theorem neg_cat (l:Bs):(⟨#[45]⟩:ByteArray) ++ ⟨l.toArray⟩=⟨(45 :: l).toArray⟩:=cat_eq [45] l
set_option maxRecDepth 100000 in
set_option maxHeartbeats 4000000 in
theorem Num_ok (n:Int) (w:World) (h1 : -1000000000<n) (h2:n<1000000000):Calls Tryz.prog 88 #[.int .i64 n] w (RetB (.string ⟨(Lib.itoa n).toArray⟩) w):=by
 by_cases h:n<0
 ·obtain ⟨k,hk⟩:∃ k:Nat,n = -((k:Int)+1):=⟨(-n - 1).toNat,by omega⟩
  subst hk
  have hi:Lib.itoa (-((k:Int)+1))=45 :: Lib.decDigits (k+1):=by
   unfold Lib.itoa
   rw [if_pos h]
   congr 2
  have hD:=fun W=>digits_ok (k+1) W (by omega)
  have hdl:=dig_len (k+1) (by omega)
  have hk9:(k:Int)<1000000000:=by omega
  have HI:=Lib.hid hi
  clear hi h1 h2
  rw [Int.natCast_add] at hD
  change ∀ W,Calls _ _ #[.int .u64 ((k:Int)+1)] _ _ at hD
  generalize Lib.decDigits (k+1)=dd at *
  have e1:(-((k:Int)+1))+1 = -(k:Int):=by omega
  have e2 : -(-(k:Int))=(k:Int):=by omega
  have hadd:=fun W=>run_string_add_sum (P:=Tryz.prog) W ⟨#[45]⟩ ⟨dd.toArray⟩ (by have:=lsize dd;show 1+(⟨dd.toArray⟩:ByteArray).size≤_;omega)
  rw [neg_cat] at hadd
  go_enter Tryz.func88,Tryz.ntmps88
  go_wp2_with (go_at_call 150;refine (hD _).mono ?_)
  rintro e W1 ⟨rfl,b1⟩
  go_wp2
  go_ret
  exact ⟨by rw [HI.out];rfl,b1⟩
 ·obtain ⟨k,rfl⟩:∃ k:Nat,n=k:=⟨n.toNat,by omega⟩
  have hi:Lib.itoa (k:Int)=Lib.decDigits k:=by
   unfold Lib.itoa
   rw [if_neg h,Int.toNat_natCast]
  have hD:=fun W=>digits_ok k W (by omega)
  have HI:=Lib.hid hi
  clear hi
  go_enter Tryz.func88,Tryz.ntmps88
  go_wp2_with (go_at_call 150;refine (hD _).mono ?_)
  rintro e W1 ⟨rfl,b1⟩
  go_wp2
  go_ret
  exact ⟨by rw [HI.out];rfl,b1⟩
def RetNu (w:Bs) (W:World) (e:Ending) (W':World):Prop:=e=.returned (.tuple #[.int .i64 (numberR w).1,.bool (numberR w).2])∧Below W.heap.size W W'
theorem mag_b (s:ByteArray):mag s.data.toList=if s.data.toList.head? = some 45 then s.data.toList.drop 1 else s.data.toList:=by
 unfold mag Lib.trimPrefix Lib.hasPrefix
 cases s.data.toList with
 | nil=>rfl
 | cons c r =>
  by_cases h:c=45
  ·subst h;rfl
  ·rw [if_neg (by simpa using fun e=>h e.symm),if_neg (by simpa using h)]
theorem digit_no {c:UInt8} (h:(c.toNat:Int)<48∨57<(c.toNat:Int)):Lib.digitVal c=none:=by
 unfold Lib.digitVal
 rw [if_neg]
 omega
theorem digit_yes {c:UInt8} (h1:48≤(c.toNat:Int)) (h2:(c.toNat:Int)≤57):Lib.digitVal c=some (c.toNat - 48):=by
 unfold Lib.digitVal
 rw [if_pos]
 omega
set_option maxRecDepth 100000 in
set_option maxHeartbeats 8000000 in
theorem number_ok (s:ByteArray) (w:World) (hs:s.size<2147480000):Calls Tryz.prog 152 #[.string s] w (RetNu s.data.toList w):=by
 obtain ⟨d,hd⟩:∃ d:ByteArray,d.data.toList=mag s.data.toList:=⟨⟨(mag s.data.toList).toArray⟩,rfl⟩
 obtain ⟨bb,hbb⟩:∃ bb:Bool,bb=(s.data.toList.head? == some 45):=⟨_,rfl⟩
 have hmg:=mag_b s
 have hnr:numberR s.data.toList=if (mag s.data.toList).length<1∨9<(mag s.data.toList).length then (0,false) else match Lib.decFrom 0 (mag s.data.toList) with
  | none=>(0,false)
  | some u=>((if mag s.data.toList≠s.data.toList then -(u:Int) else u),decide (Lib.itoa (if mag s.data.toList≠s.data.toList then -(u:Int) else u)=s.data.toList)):=rfl
 rw [← hd] at hmg hnr
 rw [← size_len] at hnr
 have HN:=Lib.hid hnr
 have HB:=Lib.hid hbb
 have HM:=Lib.hid hmg
 clear hnr hbb hmg hd
 go_enter Tryz.func152,Tryz.ntmps152
 go_upto_region 2 with fail
 go_cut [15] (fun v W=>v=.bool bb∧W=w)
 case first =>
  by_cases h0:0<s.size
  ·have hb:bb=((s[0].toNat:Int) == 45):=by
    rw [HB.out,List.head?_eq_getElem?,get_at s 0 h0]
    by_cases h:s[0]=45
    ·rw [h];rfl
    ·have h1:((s[0].toNat:Int) == 45)=false:=beq_no h
     rw [h1];simpa using h
   have HQ:=Lib.hid hb
   clear hb
   go_wp2
   go_meet
   exact ⟨by rw [HQ.out],rfl⟩
  ·have HQ:=Lib.hid (show bb=false by rw [HB.out,empty_nil h0];rfl)
   go_wp2
   go_meet
   exact ⟨by rw [HQ.out],rfl⟩
 case rest =>
  obtain ⟨rfl,rfl⟩:=hcut
  go_upto_if 15 with fail
  go_cut [4] (fun v W=>v=.string d∧W=wc)
  case first =>
   cases bb with
   | false =>
    have hd:s=d:=bytes_ext (by rw [HM.out,if_neg];intro h;have:=HB.out;rw [h] at this;cases this)
    have HD:=Lib.hid hd
    clear hd
    go_wp2
    go_meet
    exact ⟨by rw [HD.out],rfl⟩
   | true =>
    have hh:s.data.toList.head? = some 45:=beq_iff_eq.1 HB.out.symm
    have hl:1≤s.data.toList.length:=by
     cases hq:s.data.toList with
     | nil=>rw [hq] at hh;cases hh
     | cons _ _=>exact Nat.succ_le_succ (Nat.zero_le _)
    have hsf:∀ W,(Instr.slice 9 (.string s) (some (.int .i64 1)) none none).run Tryz.prog W=.ok (.string d) W:=fun W=>by
     have h1:=slice_from s.data.toList 1 hl W
     have h2:(⟨(s.data.toList.drop 1).toArray⟩:ByteArray)=d:=bytes_ext (by rw [HM.out,if_pos hh])
     rw [h2] at h1
     exact h1
    clear hh hl
    go_wp2
    go_meet
    exact ⟨rfl,rfl⟩
  case rest =>
   obtain ⟨rfl,rfl⟩:=hcut
   clear HB HM
   by_cases hbad:d.size<1∨9<d.size
   ·have HR:=Lib.hid (show numberR s.data.toList=(0,false) by rw [HN.out,if_pos hbad])
    clear HN
    by_cases hd1:d.size<1
    ·go_wp2
     go_ret2
     exact ⟨by rw [HR.out];rfl,Below.refl _ _⟩
    ·have hd9:9<(d.size:Int):=by omega
     clear hbad
     go_wp2
     go_ret2
     exact ⟨by rw [HR.out];rfl,Below.refl _ _⟩
   ·have hnr:=HN.out
    rw [if_neg hbad] at hnr
    have hd1:1≤(d.size:Int):=by omega
    have hd9:(d.size:Int)≤9:=by omega
    have HN2:=Lib.hid hnr
    clear hnr HN hbad
    go_wp2
    go_loopw [5,6] (fun v i wr=>∃ (k u:Nat),k≤d.size∧v=.int .i64 u∧i=.int .i64 k∧wr=wc∧u<10 ^ k∧Lib.decFrom 0 d.data.toList=Lib.decFrom u (d.data.toList.drop k)) (fun _ i _=>d.size - (intOf i).toNat)
    case atStart=>exact ⟨0,0,Nat.zero_le _,rfl,rfl,rfl,by decide,rfl⟩
    case round =>
     obtain ⟨k,u,hk,rfl,rfl,rfl,hu,hI⟩:=hrel
     have hub:(u:Int)<1000000000:=by
      have:=Nat.pow_le_pow_right (n:=10) (by decide) (show k≤9 by omega)
      omega
     by_cases hlt:k<d.size
     ·rw [drop_one d k hlt] at hI
      by_cases q1:(d[k].toNat:Int)<48
      ·have HR:=Lib.hid (show numberR s.data.toList=(0,false) by rw [HN2.out,hI,Lib.decFrom,digit_no (.inl q1)])
       clear hI hu
       go_wp2
       go_ret2
       exact ⟨by rw [HR.out];rfl,Below.refl _ _⟩
      by_cases q2:57<(d[k].toNat:Int)
      ·have HR:=Lib.hid (show numberR s.data.toList=(0,false) by rw [HN2.out,hI,Lib.decFrom,digit_no (.inr q2)])
       clear hI hu
       go_wp2
       go_ret2
       exact ⟨by rw [HR.out];rfl,Below.refl _ _⟩
      ·rw [Lib.decFrom,digit_yes (by omega) (by omega)] at hI
       have hu2:u * 10+(d[k].toNat - 48)<10 ^ (k+1):=by rw [Nat.pow_succ];omega
       have HI:=Lib.hid hI
       have HU:=Lib.hid hu2
       clear hI hu hu2
       go_wp2
       go_roundw
       case rel=>exact ⟨k+1,u * 10+(d[k].toNat - 48),by omega,by congr 1;omega,by go_num,trivial,HU.out,HI.out⟩
       case measure=>simp [intOf];omega
     ·rw [List.drop_of_length_le (by rw [← size_len];omega)] at hI
      have hI:Lib.decFrom 0 d.data.toList=some u:=hI
      have hnr:=HN2.out
      rw [hI] at hnr
      simp only at hnr
      clear HN2 hI hu
      by_cases hne:d.data.toList=s.data.toList
      ·obtain rfl:d=s:=bytes_ext hne
       have hr:numberR d.data.toList=((u:Int),decide (Lib.itoa (u:Int)=d.data.toList)):=by rw [hnr,if_neg (fun h=>h rfl)]
       have HR:=Lib.hid hr
       have hN:=fun W=>Num_ok u W (by omega) (by omega)
       clear hnr hne hr
       generalize Lib.itoa (u:Int)=ia at *
       go_wp2_with (go_at_call 88;refine (hN _).mono ?_)
       rintro e W1 ⟨rfl,b1⟩
       go_wp2
       go_ret2
       have hq:(ia == d.toList)=decide (ia=d.data.toList):=by
        rw [ByteArray.toList_eq,Bool.eq_iff_iff,beq_iff_eq,decide_eq_true_eq]
       exact ⟨by rw [HR.out,← hq];rfl,b1⟩
      ·have hr:numberR s.data.toList=(-(u:Int),decide (Lib.itoa (-(u:Int))=s.data.toList)):=by rw [hnr,if_pos hne]
       have HR:=Lib.hid hr
       have hN:=fun W=>Num_ok (-(u:Int)) W (by omega) (by omega)
       have hne2:(d.toList == s.toList)=false:=by
        rw [ByteArray.toList_eq,ByteArray.toList_eq,beq_eq_false_iff_ne]
        exact hne
       obtain ⟨z,hz⟩:∃ z:Int,z = -(u:Int):=⟨_,rfl⟩
       have hneg:wrap64 (-(u:Int))=z:=by rw [hz];exact IntWalk.wrap64_in _ ⟨by omega,by omega⟩
       rw [← hz] at HR hN
       clear hnr hne hr hub hz
       generalize Lib.itoa z=ia at *
       go_wp2_with (go_at_call 88;refine (hN _).mono ?_)
       rintro e W1 ⟨rfl,b1⟩
       go_wp2
       go_ret2
       have hq:(ia == s.toList)=decide (ia=s.data.toList):=by
        rw [ByteArray.toList_eq,Bool.eq_iff_iff,beq_iff_eq,decide_eq_true_eq]
       exact ⟨by rw [HR.out,← hq];rfl,b1⟩
end Go.Proofs
namespace Go.Proofs
open Go.RowKit Go.Sp
def RetTi (w:Bs) (W:World) (e:Ending) (W':World):Prop:=e=.returned (.tuple #[.agg #[.int .i64 (titleR w).1.1,.string ⟨(titleR w).1.2.toArray⟩],.bool (titleR w).2])∧Below W.heap.size W W'
set_option maxRecDepth 100000 in
set_option maxHeartbeats 8000000 in
theorem title_ok (s:ByteArray) (w:World) (hs:s.size<2147480000):Calls Tryz.prog 153 #[.string s] w (RetTi s.data.toList w):=by
 have hp0:P1 w (w.alloc (.cells #[.int .i64 0,.string ⟨#[]⟩] 30)):=⟨(Below.refl _ w).alloc (Nat.le_refl _) _,TBlk.new w⟩
 have hR0:∀ W,Calls Tryz.prog 151 #[.string s] W (RetB (.tuple #[.string ⟨(textR s.data.toList).1.toArray⟩,.bool (textR s.data.toList).2]) W):=fun W=>(textR_ok s W hs).mono fun _ _ h=>h
 have hrl:=textR_len s.data.toList
 rw [← size_len] at hrl
 have hT:∀ W,Calls Tryz.prog 270 #[.string ⟨(textR s.data.toList).1.toArray⟩] W (RetB (parseV (parseR (textR s.data.toList).1)) W):=fun W=>tparseR_ok ⟨(textR s.data.toList).1.toArray⟩ W (by show (textR s.data.toList).1.length<_;omega)
 unfold parseV at hT
 have hok:titleR s.data.toList=if (textR s.data.toList).2=true then ((parseR (textR s.data.toList).1).2,decide ((parseR (textR s.data.toList).1).1=0) && decide (fmt (parseR (textR s.data.toList).1).2.1 (parseR (textR s.data.toList).1).2.2=(textR s.data.toList).1)) else ((0,[]),false):=rfl
 have hR:(parseR (textR s.data.toList).1).1=0→valid (parseR (textR s.data.toList).1).2.1 (parseR (textR s.data.toList).1).2.2=true:=fun h=>reads_ref.ok (s:=(textR s.data.toList).1) (sp:=(parseR (textR s.data.toList).1).2.1) (m:=(parseR (textR s.data.toList).1).2.2) (by rw [← h])
 generalize (parseR (textR s.data.toList).1)=r at *
 generalize (textR s.data.toList).1=t at *
 generalize (textR s.data.toList).2=ok at *
 obtain ⟨er,sp,nm⟩:=r
 cases ok with
 | false =>
  have HO:=Lib.hid (show titleR s.data.toList=((0,[]),false) from hok)
  clear hok hT hR
  go_enter Tryz.func153,Tryz.ntmps153
  go_wp2_with (go_at_call 151;refine (hR0 _).mono ?_)
  rintro e W1 ⟨rfl,b1⟩
  have hp1:=hp0.step b1
  clear hp0 b1
  have d0:=hp1.2.c0
  have d1:=hp1.2.c1
  have g0:=hp1.2.f0
  have g1:=hp1.2.f1
  go_wp2
  have hF:=(hp1.2.set0 0).set1 []
  have hFB:=(hp1.1.setCell (p:=⟨w.heap.size,0,none⟩) (Nat.le_refl _) (.int .i64 0)).setCell (p:=⟨w.heap.size,1,none⟩) (Nat.le_refl _) (.string ⟨#[]⟩)
  generalize (W1.setCell ⟨w.heap.size,0,none⟩ (.int .i64 0)).setCell ⟨w.heap.size,1,none⟩ (.string ⟨#[]⟩)=WF at *
  have e0:=hF.c0
  have e1:=hF.c1
  exact bodyPost_ret (v:=.tuple #[.agg #[.int .i64 0,.string ⟨#[]⟩],.bool false]) (by simp [results,Tryz.results153,go_sem,e0,e1]) rfl ⟨by rw [HO.out],hFB⟩
 | true =>
  have HO:=Lib.hid (show titleR s.data.toList=((sp,nm),decide (er=0) && decide (fmt sp nm=t)) from hok)
  clear hok
  go_enter Tryz.func153,Tryz.ntmps153
  go_wp2_with (go_at_call 151;refine (hR0 _).mono ?_)
  rintro e W1 ⟨rfl,b1⟩
  have hp1:=hp0.step b1
  clear hp0 b1
  go_wp2_with (go_at_call 270;refine (hT _).mono ?_)
  rintro e W2 ⟨rfl,b2⟩
  have hp2:=hp1.step b2
  clear hp1 b2 hT hR0
  go_upto_region 5 with fail
  have hp3:P2 w (W2.alloc (.cells #[.int .i64 sp,.string ⟨nm.toArray⟩] 30)) W2.heap.size sp nm:=by
   have hb:=(Below.refl W2.heap.size W2).alloc (Nat.le_refl _) (.cells #[.int .i64 sp,.string ⟨nm.toArray⟩] 30)
   refine ⟨hp2.1.trans (hb.mono hp2.1.size),hp2.2.below hb,?_,hp2.2.lt⟩
   constructor <;> simp [World.cell?,World.frozen?,World.alloc,-World.alloc_eq]
  have hT:=hp2.2.lt
  generalize W2.alloc (.cells #[.int .i64 sp,.string ⟨nm.toArray⟩] 30)=W3 at *
  generalize W2.heap.size=T at *
  clear hp2
  have d0:=hp3.2.1.c0
  have d1:=hp3.2.1.c1
  have g0:=hp3.2.1.f0
  have g1:=hp3.2.1.f1
  have k0:=hp3.2.2.1.c0
  have k1:=hp3.2.2.1.c1
  by_cases he:er=0
  ·subst he
   have hv:=hR rfl
   have hlen:=(valid_parts hv).2.2.2.1
   have hF:=fun W=>tformatR_ok sp ⟨nm.toArray⟩ W (by show nm.length<_;omega)
   have hH:=fun w' (h:P2 w w' T sp nm)=>(hF w').mono fun _ _ he=>(⟨he.1,HeldT.of (h.step he.2)⟩:_∧HeldT w _ T sp nm)
   have hb:decide (fmt sp nm=t)=(fmt sp nm == t):=by simp [Bool.beq_eq_decide_eq]
   have HB:=Lib.hid hb
   clear hv hlen hR hF hs hrl hb
   generalize fmt sp nm=q at *
   clear hT
   go_region_with (go_at_call 24;refine (hH _ hp3.drew).mono ?_;rintro e w' ⟨rfl,m0,m1,m2,m3,m4,m5,k⟩)
   all_goals
    go_wp2
    have hF:=((k.2.1.set0 sp).set1 nm).c0
    have hF1:=((k.2.1.set0 sp).set1 nm).c1
    have hFB:=((k.1.setCell (p:=⟨w.heap.size,0,none⟩) (Nat.le_refl _) (.int .i64 sp)).setCell (p:=⟨w.heap.size,1,none⟩) (Nat.le_refl _) (.string ⟨nm.toArray⟩))
    exact bodyPost_ret (v:=.tuple #[.agg #[.int .i64 sp,.string ⟨nm.toArray⟩],.bool (q == t)]) (by simp [results,Tryz.results153,go_sem,hF,hF1]) rfl ⟨by rw [HO.out,← HB.out];simp,hFB⟩
  ·have f1:(er == 0)=false:=by simp [he]
   have f2:(decide (er=0) && decide (fmt sp nm=t))=false:=by simp [he]
   have HE:=Lib.hid f2
   clear hrl hs hR f2 he
   go_region
   go_wp2
   have hF:=((hp3.2.1.set0 sp).set1 nm).c0
   have hF1:=((hp3.2.1.set0 sp).set1 nm).c1
   have hFB:=(((hp3.1.setCell (p:=⟨w.heap.size,0,none⟩) (Nat.le_refl _) (.int .i64 sp)).setCell (p:=⟨w.heap.size,1,none⟩) (Nat.le_refl _) (.string ⟨nm.toArray⟩)).drew)
   exact bodyPost_ret (v:=.tuple #[.agg #[.int .i64 sp,.string ⟨nm.toArray⟩],.bool false]) (by simp [results,Tryz.results153,go_sem,hF,hF1]) rfl ⟨by rw [HO.out,HE.out],hFB⟩
end Go.Proofs
namespace Go.Proofs
open Go.RowKit Go.Sp
def letB:Fld→UInt8
 | .user=>117 | .title=>116 | .to=>111 | .text=>120 | .note=>109 | .base=>98 | .num=>110 | .many=>104
def sstr (f:Sp.Form):Bs:=f.kinds.map letB ++ (if f.many then [104] else [])
def scells (f:Sp.Form):List Value:=[.int .i64 f.kind,.string ⟨f.verb.toArray⟩,.string ⟨(sstr f).toArray⟩]
def shapesCells:Array Value:=(forms.flatMap scells).toArray
structure SRow (w:World) (B:Nat):Prop where
 kind:∀ i,i<21→w.cell? ⟨B,i * 3,none⟩=some (.int .i64 (formAt i).kind)
 verb:∀ i,i<21→w.cell? ⟨B,i * 3+1,none⟩=some (.string ⟨(formAt i).verb.toArray⟩)
 words:∀ i,i<21→w.cell? ⟨B,i * 3+2,none⟩=some (.string ⟨(sstr (formAt i)).toArray⟩)
theorem SRow.below {w w':World} {B b:Nat} (h:SRow w B) (hB:B<b) (x:Below b w w'):SRow w' B :=
 ⟨fun i hi=>(x.cell (p:=⟨B,i * 3,none⟩) hB).trans (h.kind i hi),fun i hi=>(x.cell (p:=⟨B,i * 3+1,none⟩) hB).trans (h.verb i hi),fun i hi=>(x.cell (p:=⟨B,i * 3+2,none⟩) hB).trans (h.words i hi)⟩
theorem shapesAt (i:Nat) (hi:i<21):shapesCells[i * 3]? = some (.int .i64 (formAt i).kind)∧shapesCells[i * 3+1]? = some (.string ⟨(formAt i).verb.toArray⟩)∧shapesCells[i * 3+2]? = some (.string ⟨(sstr (formAt i)).toArray⟩):=by
 have:i=0∨i=1∨i=2∨i=3∨i=4∨i=5∨i=6∨i=7∨i=8∨i=9∨i=10∨i=11∨i=12∨i=13∨i=14∨i=15∨i=16∨i=17∨i=18∨i=19∨i=20:=by omega
 rcases this with rfl | rfl | rfl | rfl | rfl | rfl | rfl | rfl | rfl | rfl | rfl | rfl | rfl | rfl | rfl | rfl | rfl | rfl | rfl | rfl | rfl <;> exact ⟨rfl,rfl,rfl⟩
theorem SRow.new (w:World):SRow (w.alloc (.cells shapesCells 128)) w.heap.size:=by
 constructor <;> intro i hi <;> obtain ⟨h1,h2,h3⟩:=shapesAt i hi <;> simpa [World.cell?,World.alloc,-World.alloc_eq]
def RetSh (w:World) (e:Ending) (w':World):Prop:=e=.returned (.slice (some ⟨w.heap.size,0,none⟩) 21 21)∧Below w.heap.size w w'∧SRow w' w.heap.size∧w.heap.size<w'.heap.size
set_option maxRecDepth 100000 in
set_option maxHeartbeats 4000000 in
theorem shapes_ok (w:World):Calls Tryz.prog 51 #[] w (RetSh w):=by
 have hf:RetSh w (.returned (.slice (some ⟨w.heap.size,0,none⟩) 21 21)) (w.alloc (.cells shapesCells 128)):=⟨rfl,(Below.refl _ w).alloc (Nat.le_refl _) _,SRow.new w,by simp⟩
 have HF:=Lib.hid hf
 clear hf
 go_enter Tryz.func51,Tryz.ntmps51
 go_wp2
 go_ret
 exact HF.out
structure SpR (s:ByteArray) (c:UInt8) (w wr:World) (k fr:Nat) (v:Value) (L:List Bs):Prop where
 below:Below w.heap.size w wr
 row:wr.ownsRow w.heap.size 9 1 v L.length (strs L)
 len:L.length≤k
 frl:fr≤k
 no:∀ j,fr≤j→j<k→s.data.toList[j]? ≠ some c
 eq:splitL c s.data.toList=L ++ splitL c (s.data.toList.drop fr)
theorem take_no {l:Bs} {c:UInt8} {fr k:Nat} (h:∀ j,fr≤j→j<k→l[j]? ≠ some c):c ∉ (l.drop fr).take (k - fr):=by
 intro hm
 obtain ⟨i,hi⟩:=List.getElem?_of_mem hm
 rw [List.getElem?_take] at hi
 split at hi
 ·rw [List.getElem?_drop] at hi
  exact h (fr+i) (by omega) (by omega) hi
 ·cases hi
theorem drop_cut {l:Bs} {fr k:Nat} (h:fr≤k):l.drop fr=(l.drop fr).take (k - fr) ++ l.drop k:=by
 have:=List.take_append_drop (k - fr) (l.drop fr)
 rw [List.drop_drop,show fr+(k - fr)=k from by omega] at this
 exact this.symm
theorem SpR.hit {s:ByteArray} {c:UInt8} {w wr w1:World} {k fr:Nat} {v v1:Value} {L:List Bs} {o:Obj} (h:SpR s c w wr k fr v L) (hk:k<s.size) (hc:s[k]=c) (ho:w1.ownsRow w.heap.size 9 1 v1 (L.length+1) (strs L ++ [.string ⟨((s.data.toList.drop fr).take (k - fr)).toArray⟩])) (hg:(wr.alloc o).grownBy w1 v.ownBlock):SpR s c w w1 (k+1) (k+1) v1 (L ++ [(s.data.toList.drop fr).take (k - fr)]):=by
 have hs:=h.below.size
 refine ⟨(h.below.alloc hs _).grown hg (by simp;omega) (fun b hh=>owns_base h.row b hh),?_,by rw [List.length_append,List.length_singleton];have:=h.len;omega,Nat.le_refl _,fun j h1 h2=>by omega,?_⟩
 ·rw [List.length_append,strs_snoc];exact ho
 ·rw [h.eq,List.append_assoc]
  congr 1
  have e1:splitL c (s.data.toList.drop fr)=splitL c ((s.data.toList.drop fr).take (k - fr) ++ s.data.toList.drop k):=by rw [← drop_cut h.frl]
  rw [e1,drop_one s k hk,hc,splitL_app (take_no h.no)];rfl
theorem SpR.miss {s:ByteArray} {c:UInt8} {w wr:World} {k fr:Nat} {v:Value} {L:List Bs} (h:SpR s c w wr k fr v L) (hk:k<s.size) (hc:s[k]≠c):SpR s c w wr (k+1) fr v L :=
 ⟨h.below,h.row,Nat.le_succ_of_le h.len,Nat.le_succ_of_le h.frl,fun j h1 h2=>by
  by_cases e:j=k
  ·subst e
   rw [get_at s j hk]
   exact fun e=>hc (Option.some.inj e)
  ·exact h.no j h1 (by omega),h.eq⟩
theorem SpR.last {s:ByteArray} {c:UInt8} {w wr w1:World} {fr:Nat} {v v1:Value} {L:List Bs} {o:Obj} (h:SpR s c w wr s.size fr v L) (ho:w1.ownsRow w.heap.size 9 1 v1 (L.length+1) (strs L ++ [.string ⟨((s.data.toList.drop fr).take (s.size - fr)).toArray⟩])) (hg:(wr.alloc o).grownBy w1 v.ownBlock):Below w.heap.size w w1∧w1.ownsRow w.heap.size 9 1 v1 (splitL c s.data.toList).length (strs (splitL c s.data.toList)):=by
 have hs:=h.below.size
 refine ⟨(h.below.alloc hs _).grown hg (by simp;omega) (fun b hh=>owns_base h.row b hh),?_⟩
 have e1:splitL c (s.data.toList.drop fr)=[(s.data.toList.drop fr).take (s.size - fr)]:=by
  have h1:=take_no h.no
  have h2:(s.data.toList.drop fr).take (s.size - fr)=s.data.toList.drop fr:=List.take_of_length_le (by rw [List.length_drop,size_len];exact Nat.le_refl _)
  rw [h2] at h1 ⊢
  exact splitL_no h1
 rw [h.eq,e1,List.length_append,strs_snoc]
 exact ho
theorem slice_mid (s:ByteArray) (a b:Nat) (h1:a≤b) (h2:b≤s.size) (W:World):(Instr.slice 9 (.string s) (some (.int .i64 (a:Int))) (some (.int .i64 (b:Int))) none).run Tryz.prog W=.ok (.string ⟨((s.data.toList.drop a).take (b - a)).toArray⟩) W:=by
 have g1:(0:Int)≤a:=by omega
 have g3:(a:Int)≤(b:Int):=by omega
 have g4:(b:Int)≤(s.size:Int):=by omega
 have g6:(0:Int)≤(b:Int):=by omega
 have e:s.extract a b=⟨((s.data.toList.drop a).take (b - a)).toArray⟩:=by
  apply bytes_ext
  rw [ByteArray.data_extract,Array.toList_extract,List.extract_eq_take_drop]
 have h5:(Instr.slice 9 (.string s) (some (.int .i64 (a:Int))) (some (.int .i64 (b:Int))) none).run Tryz.prog W=.ok (.string (s.extract (a:Int).toNat (b:Int).toNat)) W:=by
  simp [Instr.slice,run_underlying und9s,Instr.sliceBounds,run_sliceBound,g1,g3,g4,g6]
 rw [h5,Int.toNat_natCast,Int.toNat_natCast,e]
set_option maxRecDepth 100000 in
set_option maxHeartbeats 8000000 in
theorem splitR_ok (s:ByteArray) (c:UInt8) (w:World) (hs:s.size<2147480000):Calls Tryz.prog 55 #[.string s,.int .u8 c.toNat] w (RetO (splitL c s.data.toList) w):=by
 obtain ⟨i0,hi,hz0,hz1,hz2⟩:=info_parts info9
 have hsl:=slice_mid s
 go_enter Tryz.func55,Tryz.ntmps55
 go_wp2
 go_loopw [5,6,7] (fun v f i wr=>∃ k:Nat,i=.int .i64 k∧((k≤s.size∧∃ (fr:Nat) (L:List Bs),f=.int .i64 fr∧SpR s c w wr k fr v L)∨(k=s.size+1∧Below w.heap.size w wr∧wr.ownsRow w.heap.size 9 1 v (splitL c s.data.toList).length (strs (splitL c s.data.toList))))) (fun _ _ i _=>s.size+1 - (intOf i).toNat)
 case atStart=>exact ⟨0,rfl,.inl ⟨Nat.zero_le _,0,[],rfl,Below.refl _ _,World.ownsRow_nil _ _ _ _,Nat.le_refl _,Nat.le_refl _,fun j h1 h2=>by omega,rfl⟩⟩
 case round =>
  obtain ⟨k,rfl,hk⟩:=hrel
  rcases hk with ⟨hk,fr,L,rfl,hR⟩ | ⟨hk,hb,hrow⟩
  ·have hln:=hR.len
   have hfl:=hR.frl
   have hz:=hR.below.size
   by_cases hlt:k<s.size
   ·have hne:((k:Int) == (s.size:Int))=false:=by rw [beq_eq_false_iff_ne];omega
    by_cases hc:s[k]=c
    ·have f1:((s[k].toNat:Int) == (c.toNat:Int))=true:=by rw [hc];simp
     have hx:=hsl fr k hfl hk
     have HC:=Lib.hid hc
     clear hsl hc
     go_wp2_with (at_builtin;refine wpList_append_own _ rfl _ _ 60 rfl w.heap.size 9 i0 _ 1 16 und60 hi hz0 hz1 hz2 rfl (by decide) _ L.length (strs L) rfl (hR.row.alloc _) ⟨wr.heap.size,0,none⟩ 1 1 [.string ⟨((s.data.toList.drop fr).take (k - fr)).toArray⟩] rfl rfl (cell_new _ _ _) (fun u hu=>by rw [List.mem_singleton.1 hu];rfl) (by unfold maxLen;omega) (by omega) (by simp;omega) ?_;intro v1 w1 hown1 hgrow1 _hnil)
     have hR1:=hR.hit hlt HC.out hown1 hgrow1
     clear hR hown1 hgrow1 _hnil hx
     go_roundw
     case rel=>exact ⟨k+1,by go_num,.inl ⟨by omega,k+1,_,by go_num,hR1⟩⟩
     case measure=>simp [intOf];omega
    ·have f1:((s[k].toNat:Int) == (c.toNat:Int))=false:=beq_no hc
     have hR1:=hR.miss hlt hc
     clear hsl hc hR
     go_wp2
     go_roundw
     case rel=>exact ⟨k+1,by go_num,.inl ⟨by omega,fr,_,rfl,hR1⟩⟩
     case measure=>simp [intOf];omega
   ·obtain rfl:k=s.size:=by omega
    have hx:=hsl fr s.size hfl hk
    clear hsl
    go_wp2_with (at_builtin;refine wpList_append_own _ rfl _ _ 60 rfl w.heap.size 9 i0 _ 1 16 und60 hi hz0 hz1 hz2 rfl (by decide) _ L.length (strs L) rfl (hR.row.alloc _) ⟨wr.heap.size,0,none⟩ 1 1 [.string ⟨((s.data.toList.drop fr).take (s.size - fr)).toArray⟩] rfl rfl (cell_new _ _ _) (fun u hu=>by rw [List.mem_singleton.1 hu];rfl) (by unfold maxLen;omega) (by omega) (by simp;omega) ?_;intro v1 w1 hown1 hgrow1 _hnil)
    have hR1:=hR.last hown1 hgrow1
    clear hR hown1 hgrow1 _hnil hx
    go_roundw
    case rel=>exact ⟨s.size+1,by go_num,.inr ⟨rfl,hR1⟩⟩
    case measure=>simp [intOf]
  ·subst hk
   clear hsl
   go_wp2
   go_ret
   exact ⟨hb,_,rfl,hrow⟩
end Go.Proofs
