/- A part of the proof: Wh, Wi, Wj, Wk, Wn -/
import Derived.Test.YtimfnccfnefajaaGreatDoorVWc
import Derived.Deep.RegionHeld3
import Derived.Deep.RegionWith
import Derived.OwnWalk
import Derived.Laws.AppendOwn
import Derived.Lib.Replace
import Derived.Lib.IndexLaws
import Derived.Lib.IndexBytes
set_option linter.unusedSimpArgs false
set_option linter.unusedVariables false
namespace Go.Proofs
open Go.RowKit Go.Sp
theorem valid_eq (sp:Int) (s:Bs):valid sp s=(decide (0≤sp) && decide (sp<6) && decide (1≤s.length) && decide (s.length≤100) && cleanB s && (splitL 47 s).all partOk && s.head? != some 58 && !lowHead s && (sp != 0 || (pre s).isNone)):=rfl
theorem valid_no {sp:Int} {n:ByteArray} (h:sp<0∨6≤sp∨n.size<1∨100<n.size∨cleanB n.data.toList=false∨(splitL 47 n.data.toList).all partOk=false):valid sp n.data.toList=false:=by
 have hsl:=size_len n
 rw [valid_eq]
 rcases h with h | h | h | h | h | h
 ·simp [show ¬ 0≤sp by omega]
 ·simp [show ¬ sp<6 by omega]
 ·simp [show ¬ 1≤n.size by omega]
 ·simp [show ¬ n.size≤100 by omega]
 ·simp [h]
 ·rw [h];simp
def tailB (sp:Int) (s:Bs):Bool:=s.head? != some 58 && !lowHead s && (sp != 0 || (pre s).isNone)
theorem valid_tail {sp:Int} {n:ByteArray} (h0:0≤sp) (h1:sp<6) (h2:1≤n.size) (h3:n.size≤100) (h4:cleanB n.data.toList=true) (h5:(splitL 47 n.data.toList).all partOk=true):valid sp n.data.toList=tailB sp n.data.toList:=by
 have hsl:=size_len n
 rw [valid_eq,h4,h5]
 unfold tailB
 simp [h0,h1,h2,h3]
theorem splitL_len (c:UInt8) (s:Bs):(splitL c s).length≤s.length+1:=by
 induction s with
 | nil=>exact Nat.le_refl _
 | cons x r ih =>
  unfold splitL
  split
  ·simp only [List.length_cons];omega
  ·obtain ⟨p,ps,h⟩:=splitL_cons c r
   rw [h] at ih ⊢
   simp only [List.length_cons] at ih ⊢
   omega
theorem splitL_part {c:UInt8}:∀ {s p:Bs},p∈splitL c s→p.length≤s.length
 | [],p,h=>by
  obtain rfl:p=[]:=by simpa [splitL] using h
  exact Nat.le_refl _
 | x :: r,p,h=>by
  unfold splitL at h
  split at h
  ·rcases List.mem_cons.1 h with rfl | h
   ·exact Nat.zero_le _
   ·have:=splitL_part h
    simp only [List.length_cons];omega
  ·obtain ⟨q,qs,hq⟩:=splitL_cons c r
   rw [hq] at h
   rcases List.mem_cons.1 h with rfl | h
   ·have:=splitL_part (c:=c) (s:=r) (p:=q) (by rw [hq];exact List.mem_cons_self)
    simp only [List.length_cons];omega
   ·have:=splitL_part (c:=c) (s:=r) (p:=p) (by rw [hq];exact List.mem_cons_of_mem _ h)
    simp only [List.length_cons];omega
theorem splitL_at (c:UInt8) (s:Bs) (j:Nat):((splitL c s).getD j []).length≤s.length:=by
 rw [List.getD]
 cases h:(splitL c s)[j]? with
 | none=>exact Nat.zero_le _
 | some p=>exact splitL_part (List.mem_of_getElem? h)
theorem all_getD {L:List Bs} (h:∀ j,j<L.length→partOk (L.getD j [])=true):L.all partOk=true:=by
 rw [List.all_eq_true]
 intro p hp
 obtain ⟨j,hj⟩:=List.getElem?_of_mem hp
 have:=h j (List.getElem?_eq_some_iff.1 hj).1
 rw [List.getD,hj] at this
 exact this
theorem all_no {L:List Bs} {j:Nat} (hj:j<L.length) (h:partOk (L.getD j [])=false):L.all partOk=false:=by
 rw [← Bool.not_eq_true,List.all_eq_true]
 intro h2
 have:=h2 (L.getD j []) (by rw [List.getD,List.getElem?_eq_getElem hj];exact List.getElem_mem _)
 rw [h] at this
 cases this
theorem head_num (n:ByteArray) (h:0<n.size):(n.data.toList.head? != some 58 && !lowHead n.data.toList)=true↔¬ (n[0].toNat:Int)=58∧¬ (97≤(n[0].toNat:Int)∧(n[0].toNat:Int)≤122):=by
 have hh:n.data.toList.head? = some n[0]:=by rw [List.head?_eq_getElem?];exact get_at n 0 h
 have a1:=byte_eq_iff n[0] 58
 have a2:(97:UInt8)≤n[0]↔97≤(n[0].toNat:Int):=by
  rw [UInt8.le_iff_toNat_le]
  show 97≤n[0].toNat↔_
  omega
 have a3:n[0]≤(122:UInt8)↔(n[0].toNat:Int)≤122:=by
  rw [UInt8.le_iff_toNat_le]
  show n[0].toNat≤122↔_
  omega
 unfold lowHead
 rw [hh]
 simp only [Option.any_some,Bool.and_eq_true,bne_iff_ne,ne_eq,Option.some.injEq,a1,Bool.not_eq_true',Bool.and_eq_false_iff,decide_eq_false_iff_not,a2,a3]
 simp only [show ((58:UInt8).toNat:Int)=58 from rfl]
 omega
set_option maxRecDepth 100000 in
set_option maxHeartbeats 8000000 in
theorem valid_ok (sp:Int) (n:ByteArray) (w:World) (hs:n.size<4294967281) (hg:Gl w):Calls Tryz.prog 127 #[.agg #[.int .i64 sp,.string n]] w (RetB (.bool (valid sp n.data.toList)) w):=by
 by_cases h2:sp<0∨6≤sp∨n.size<1∨100<n.size
 ·have HV:=Lib.hid (valid_no (sp:=sp) (n:=n) (by omega))
  have HC:=fun w=>clean_ok n w (by omega)
  go_enter Tryz.func127,Tryz.ntmps127
  go_wp2_with (go_at_call 217;refine (HC _).mono ?_)
  all_goals first
   | (exfalso;omega)
   | (go_ret
      exact ⟨by rw [HV.out];rfl,(Below.refl _ w).alloc (Nat.le_refl _) _⟩)
 ·have a1:0≤sp:=by omega
  have a2:sp<6:=by omega
  have a3:1≤(n.size:Int):=by omega
  have a4:(n.size:Int)≤100:=by omega
  clear h2
  have HC:=fun w=>clean_ok n w (by omega)
  cases hc:cleanB n.data.toList with
  | false =>
   rw [hc] at HC
   have HV:=Lib.hid (valid_no (sp:=sp) (n:=n) (.inr (.inr (.inr (.inr (.inl hc))))))
   clear hc
   go_enter Tryz.func127,Tryz.ntmps127
   go_wp2_with (go_at_call 217;refine (HC _).mono ?_)
   rintro e W1 ⟨rfl,rfl⟩
   go_wp2
   go_ret
   exact ⟨by rw [HV.out];rfl,(Below.refl _ w).alloc (Nat.le_refl _) _⟩
  | true =>
   rw [hc] at HC
   have HV:=Lib.hid (fun h5=>valid_tail (sp:=sp) (n:=n) a1 a2 (by omega) (by omega) hc h5)
   clear hc
   go_enter Tryz.func127,Tryz.ntmps127
   go_wp2_with (go_at_call 217;refine (HC _).mono ?_)
   rintro e W1 ⟨rfl,rfl⟩
   have hb0:Below w.heap.size w (w.alloc (.cells #[.int .i64 sp,.string n] 30)):=(Below.refl _ w).alloc (Nat.le_refl _) _
   go_wp2_with (go_at_call 43;refine (splitOk n 47 _ hs (hg.below hb0)).mono ?_)
   rintro e W1 ⟨rfl,b1,r1,z1⟩
   have hz:(w.alloc (.cells #[.int .i64 sp,.string n] 30)).heap.size=w.heap.size+1:=by simp
   have c0:W1.cell? ⟨w.heap.size,0,none⟩=some (.int .i64 sp):=(b1.cell (p:=⟨w.heap.size,0,none⟩) (by rw [hz];simp)).trans (by simp [World.cell?,World.alloc,-World.alloc_eq])
   rw [hz] at b1 r1 z1
   have hB:Below w.heap.size w W1:=hb0.trans (b1.mono (by omega))
   have hg1:=hg.below hB
   have hLl:=splitL_len 47 n.data.toList
   rw [← size_len] at hLl
   have hLp:=fun j=>splitL_at 47 n.data.toList j
   rw [← size_len] at hLp
   have HNo:=Lib.hid (fun h=>valid_no (sp:=sp) (n:=n) (.inr (.inr (.inr (.inr (.inr h))))))
   generalize splitL 47 n.data.toList=L at *
   clear HC hb0 hz b1
   go_wp2
   go_loop [37] (fun i=>∃ k:Nat,k≤L.length∧i=.int .i64 k∧∀ j,j<k→partOk (L.getD j [])=true) (fun i=>L.length - (intOf i).toNat)
   case atStart=>exact ⟨0,Nat.zero_le _,rfl,fun _ h=>by omega⟩
   case round =>
    obtain ⟨k,hk,rfl,hok⟩:=hrel
    have HOK:=Lib.hid hok;clear hok
    by_cases hlt:k<L.length
    ·have hc:=r1.cell k hlt
     generalize hx:(⟨(L.getD k []).toArray⟩:ByteArray)=x at hc
     have hxd:x.data.toList=L.getD k []:=by rw [← hx]
     have hxs:x.size≤n.size:=by rw [size_len,hxd];exact hLp k
     clear hx
     by_cases h0:0<x.size
     ·have he:x.toList.isEmpty=false:=by
       rw [ByteArray.toList_eq]
       cases hq:x.data.toList with
       | nil=>rw [size_len,hq] at h0;cases h0
       | cons a l=>rfl
      have HN:=Lib.hid (partOk_num x h0)
      have HX:=Lib.hid hxd;clear hxd
      clear hLp
      go_wp2
      all_goals first
       | (go_ret
          have hf:partOk (L.getD k [])=false:=by
           rw [← HX.out,← Bool.not_eq_true,HN.out]
           try simp only [beq_iff_eq,beq_eq_false_iff_ne,ne_eq] at *
           omega
          exact ⟨by rw [HNo.out (all_no hlt hf)];rfl,hB⟩)
       | (go_round
          case rel =>
           have ht:partOk (L.getD k [])=true:=by
            rw [← HX.out,HN.out]
            try simp only [beq_iff_eq,beq_eq_false_iff_ne,ne_eq] at *
            omega
           exact ⟨k+1,by omega,by go_num,fun j hj=>if e:j=k then by rw [e];exact ht else HOK.out j (by omega)⟩
          case measure=>simp [intOf];omega)
     ·have he:x.toList.isEmpty=true:=by
       rw [ByteArray.toList_eq,show x.data.toList=[] from List.eq_nil_of_length_eq_zero (by rw [← size_len];omega)]
       rfl
      have hp:=partOk_nil x h0
      clear hLp
      rw [hxd] at hp
      have HP:=Lib.hid (all_no hlt hp);clear hp hxd
      go_wp2
      go_ret
      exact ⟨by rw [HNo.out HP.out];rfl,hB⟩
    ·have hV:=HV.out (all_getD fun j hj=>HOK.out j (by omega))
     have hn0:0<n.size:=by omega
     have HN:=Lib.hid (head_num n hn0)
     have hT:tailB sp n.data.toList=((n.data.toList.head? != some 58 && !lowHead n.data.toList) && (sp != 0 || (pre n.data.toList).isNone)):=rfl
     rw [hT] at hV
     have HV2:=Lib.hid hV
     clear hV hT hLp HOK HNo HV r1
     by_cases hh:(n.data.toList.head? != some 58 && !lowHead n.data.toList)=true
     ·obtain ⟨q1,q2⟩:=HN.out.1 hh
      have hV:=HV2.out
      rw [hh,Bool.true_and] at hV
      have HV3:=Lib.hid hV
      clear hV hh HV2 HN
      have hP:=prefix_ok n W1 hs hg1
      unfold preV at hP
      cases hp:pre n.data.toList with
      | none =>
       rw [hp] at hP HV3
       clear hp
       by_cases hsp:sp=0
       ·have f1:(sp != 0)=false:=by rw [hsp];rfl
        rw [f1] at HV3
        clear hsp
        go_wp2_with (go_at_call 218;refine hP.mono ?_)
        all_goals first
                  | (exfalso;simp only [beq_iff_eq,beq_eq_false_iff_ne,ne_eq] at *;omega)
                  | (rintro e W2 ⟨rfl,b2⟩
                     have c1:=(b2.cell (p:=⟨w.heap.size,0,none⟩) (by simp;omega)).trans c0
                     go_wp2
                     go_ret
                     exact ⟨by rw [HV3.out];rfl,hB.trans (b2.mono (by omega))⟩)
       ·have f1:(sp != 0)=true:=by simp [hsp]
        rw [f1] at HV3
        clear hsp
        go_wp2_with (go_at_call 218;refine hP.mono ?_)
        all_goals first
                  | (exfalso;simp only [beq_iff_eq,beq_eq_false_iff_ne,ne_eq] at *;omega)
                  | (rintro e W2 ⟨rfl,b2⟩
                     have c1:=(b2.cell (p:=⟨w.heap.size,0,none⟩) (by simp;omega)).trans c0
                     go_wp2
                     go_ret
                     exact ⟨by rw [HV3.out];rfl,hB.trans (b2.mono (by omega))⟩)
      | some p =>
       rw [hp] at hP HV3
       clear hp
       by_cases hsp:sp=0
       ·have f1:(sp != 0)=false:=by rw [hsp];rfl
        rw [f1] at HV3
        clear hsp
        go_wp2_with (go_at_call 218;refine hP.mono ?_)
        all_goals first
                  | (exfalso;simp only [beq_iff_eq,beq_eq_false_iff_ne,ne_eq] at *;omega)
                  | (rintro e W2 ⟨rfl,b2⟩
                     have c1:=(b2.cell (p:=⟨w.heap.size,0,none⟩) (by simp;omega)).trans c0
                     go_wp2
                     go_ret
                     exact ⟨by rw [HV3.out];rfl,hB.trans (b2.mono (by omega))⟩)
       ·have f1:(sp != 0)=true:=by simp [hsp]
        rw [f1] at HV3
        clear hsp
        go_wp2_with (go_at_call 218;refine hP.mono ?_)
        all_goals first
                  | (exfalso;simp only [beq_iff_eq,beq_eq_false_iff_ne,ne_eq] at *;omega)
                  | (rintro e W2 ⟨rfl,b2⟩
                     have c1:=(b2.cell (p:=⟨w.heap.size,0,none⟩) (by simp;omega)).trans c0
                     go_wp2
                     go_ret
                     exact ⟨by rw [HV3.out];rfl,hB.trans (b2.mono (by omega))⟩)
     ·have hV:valid sp n.data.toList=false:=by rw [HV2.out,Bool.not_eq_true _ |>.mp hh];rfl
      have hq:(n[0].toNat:Int)=58∨(97≤(n[0].toNat:Int)∧(n[0].toNat:Int)≤122):=by
       by_cases q1:(n[0].toNat:Int)=58
       ·exact .inl q1
       ·by_cases q2:97≤(n[0].toNat:Int)∧(n[0].toNat:Int)≤122
        ·exact .inr q2
        ·exact absurd (HN.out.2 ⟨q1,q2⟩) hh
      have HV3:=Lib.hid hV
      clear hV hh HV2 HN
      go_wp2
      all_goals first
       | (exfalso;simp only [beq_iff_eq,beq_eq_false_iff_ne,ne_eq] at *;omega)
       | (go_ret
          exact ⟨by rw [HV3.out];rfl,hB⟩)
end Go.Proofs
namespace Go.Proofs
open Go.RowKit Go.Sp
theorem bytes_ext {a b:ByteArray} (h:a.data.toList=b.data.toList):a=b:=ByteArray.ext (Array.toList_inj.1 h)
theorem valid_range {sp:Int} {s:Bs} (h:valid sp s=true):0≤sp∧sp<6:=⟨(valid_parts h).1,(valid_parts h).2.1⟩
theorem spaces_held (w0 w:World) (x y:Value) (h:w.cell? ⟨w0.heap.size,0,none⟩=some x∧w.cell? ⟨w0.heap.size,1,none⟩=some y∧Below w0.heap.size w0 w∧w0.heap.size<w.heap.size) :
 Calls Tryz.prog 154 #[] w fun e w'=>e=.returned spacesV∧w'.cell? ⟨w0.heap.size,0,none⟩=some x∧w'.cell? ⟨w0.heap.size,1,none⟩=some y∧Below w0.heap.size w0 w'∧w0.heap.size<w'.heap.size :=
 (spaces_ok w).mono fun _ _ he=>⟨he.1,(he.2.cell (p:=⟨w0.heap.size,0,none⟩) h.2.2.2).trans h.1,(he.2.cell (p:=⟨w0.heap.size,1,none⟩) h.2.2.2).trans h.2.1,h.2.2.1.trans (he.2.mono h.2.2.1.size),Nat.lt_of_lt_of_le h.2.2.2 he.2.size⟩
set_option maxRecDepth 100000 in
set_option maxHeartbeats 4000000 in
theorem tformat_ok (sp:Int) (n:ByteArray) (w:World) (hs:n.size<4294967281) (hg:Gl w):Calls Tryz.prog 91 #[.agg #[.int .i64 sp,.string n]] w (RetB (.string ⟨(fmt sp n.data.toList).toArray⟩) w):=by
 have hb0:Below w.heap.size w (w.alloc (.cells #[.int .i64 sp,.string n] 30)):=(Below.refl _ w).alloc (Nat.le_refl _) _
 have hV:=valid_ok sp n _ hs (hg.below hb0)
 have hz:(w.alloc (.cells #[.int .i64 sp,.string n] 30)).heap.size=w.heap.size+1:=by simp
 cases hv:valid sp n.data.toList with
 | false =>
  rw [hv] at hV
  have hf:fmt sp n.data.toList=[]:=by unfold fmt;rw [hv];rfl
  have HF:=Lib.hid hf;clear hf hv
  have HZ:=Lib.hid hz;clear hz
  go_enter Tryz.func91,Tryz.ntmps91
  go_wp2_with (go_at_call 127;refine hV.mono ?_)
  rintro e W1 ⟨rfl,b1⟩
  go_wp2
  go_ret
  exact ⟨by rw [HF.out];rfl,hb0.trans (b1.mono (by rw [HZ.out];omega))⟩
 | true =>
  rw [hv] at hV
  by_cases hsp:sp=0
  ·have f1:(sp == 0)=true:=by rw [hsp];rfl
   have hf:fmt sp n.data.toList=n.data.toList:=by unfold fmt;rw [hv,if_pos rfl,if_pos hsp]
   have HF:=Lib.hid hf;clear hf hv hsp
   have HZ:=Lib.hid hz;clear hz
   go_enter Tryz.func91,Tryz.ntmps91
   go_wp2_with (go_at_call 127;refine hV.mono ?_)
   rintro e W1 ⟨rfl,b1⟩
   have c0:W1.cell? ⟨w.heap.size,0,none⟩=some (.int .i64 sp):=(b1.cell (p:=⟨w.heap.size,0,none⟩) (by rw [HZ.out];simp)).trans (by simp [World.cell?,World.alloc,-World.alloc_eq])
   have c1:W1.cell? ⟨w.heap.size,1,none⟩=some (.string n):=(b1.cell (p:=⟨w.heap.size,1,none⟩) (by rw [HZ.out];simp)).trans (by simp [World.cell?,World.alloc,-World.alloc_eq])
   go_wp2
   go_ret
   exact ⟨by rw [HF.out];rfl,hb0.trans (b1.mono (by rw [HZ.out];omega))⟩
  ·have f1:(sp == 0)=false:=by simp [hsp]
   have hr:=valid_range hv
   have hf:fmt sp n.data.toList=nms.getD sp.toNat [] ++ 58 :: n.data.toList:=by unfold fmt;rw [hv,if_pos rfl,if_neg hsp]
   have HF:=Lib.hid hf;clear hf hv
   have HZ:=Lib.hid hz;clear hz
   have hsp5:sp=1∨sp=2∨sp=3∨sp=4∨sp=5:=by omega
   clear hsp hr
   go_enter Tryz.func91,Tryz.ntmps91
   go_wp2_with (go_at_call 127;refine hV.mono ?_)
   rintro e W1 ⟨rfl,b1⟩
   have c0:W1.cell? ⟨w.heap.size,0,none⟩=some (.int .i64 sp):=(b1.cell (p:=⟨w.heap.size,0,none⟩) (by rw [HZ.out];simp)).trans (by simp [World.cell?,World.alloc,-World.alloc_eq])
   have c1:W1.cell? ⟨w.heap.size,1,none⟩=some (.string n):=(b1.cell (p:=⟨w.heap.size,1,none⟩) (by rw [HZ.out];simp)).trans (by simp [World.cell?,World.alloc,-World.alloc_eq])
   have hB:Below w.heap.size w W1:=hb0.trans (b1.mono (by rw [HZ.out];omega))
   have hlt:w.heap.size<W1.heap.size:=by have:=b1.size;rw [HZ.out] at this;omega
   clear hV hb0 b1
   go_wp2_with fail
   rcases hsp5 with rfl | rfl | rfl | rfl | rfl
   ·have hx:=space_at1
    have ha:∀ W,(Op.stringOp .add ((⟨#[84,97,108,107]⟩:ByteArray) ++ ⟨#[58]⟩) n).run Tryz.prog W=.ok (.string ((⟨#[84,97,108,107]⟩:ByteArray) ++ ⟨#[58]⟩ ++ n)) W:=fun W=>run_string_add_sum W _ _ (by rw [ByteArray.size_append];show 4+1+n.size≤_;omega)
    go_region_held3 (fun w'=>w'.cell? ⟨w.heap.size,0,none⟩=some (.int .i64 1)∧w'.cell? ⟨w.heap.size,1,none⟩=some (.string n)∧Below w.heap.size w w'∧w.heap.size<w'.heap.size) (first | exact ⟨c0,c1,hB.drew,hlt⟩ | assumption | go_keep)
     (first | (go_at_call 154;refine (spaces_held w _ _ _ (by assumption)).mono ?_;rintro e w' ⟨rfl,k⟩))
    go_wp2
    go_ret
    exact ⟨by rw [HF.out];exact congrArg (fun x=>Ending.returned (.string x)) (bytes_ext (by simp;rfl)),k.2.2.1⟩
   ·have hx:=space_at2
    have ha:∀ W,(Op.stringOp .add ((⟨#[85,115,101,114]⟩:ByteArray) ++ ⟨#[58]⟩) n).run Tryz.prog W=.ok (.string ((⟨#[85,115,101,114]⟩:ByteArray) ++ ⟨#[58]⟩ ++ n)) W:=fun W=>run_string_add_sum W _ _ (by rw [ByteArray.size_append];show 4+1+n.size≤_;omega)
    go_region_held3 (fun w'=>w'.cell? ⟨w.heap.size,0,none⟩=some (.int .i64 2)∧w'.cell? ⟨w.heap.size,1,none⟩=some (.string n)∧Below w.heap.size w w'∧w.heap.size<w'.heap.size) (first | exact ⟨c0,c1,hB.drew,hlt⟩ | assumption | go_keep)
     (first | (go_at_call 154;refine (spaces_held w _ _ _ (by assumption)).mono ?_;rintro e w' ⟨rfl,k⟩))
    go_wp2
    go_ret
    exact ⟨by rw [HF.out];exact congrArg (fun x=>Ending.returned (.string x)) (bytes_ext (by simp;rfl)),k.2.2.1⟩
   ·have hx:=space_at3
    have ha:∀ W,(Op.stringOp .add ((⟨#[84,101,109,112,108,97,116,101]⟩:ByteArray) ++ ⟨#[58]⟩) n).run Tryz.prog W=.ok (.string ((⟨#[84,101,109,112,108,97,116,101]⟩:ByteArray) ++ ⟨#[58]⟩ ++ n)) W:=fun W=>run_string_add_sum W _ _ (by rw [ByteArray.size_append];show 8+1+n.size≤_;omega)
    go_region_held3 (fun w'=>w'.cell? ⟨w.heap.size,0,none⟩=some (.int .i64 3)∧w'.cell? ⟨w.heap.size,1,none⟩=some (.string n)∧Below w.heap.size w w'∧w.heap.size<w'.heap.size) (first | exact ⟨c0,c1,hB.drew,hlt⟩ | assumption | go_keep)
     (first | (go_at_call 154;refine (spaces_held w _ _ _ (by assumption)).mono ?_;rintro e w' ⟨rfl,k⟩))
    go_wp2
    go_ret
    exact ⟨by rw [HF.out];exact congrArg (fun x=>Ending.returned (.string x)) (bytes_ext (by simp;rfl)),k.2.2.1⟩
   ·have hx:=space_at4
    have ha:∀ W,(Op.stringOp .add ((⟨#[67,97,116,101,103,111,114,121]⟩:ByteArray) ++ ⟨#[58]⟩) n).run Tryz.prog W=.ok (.string ((⟨#[67,97,116,101,103,111,114,121]⟩:ByteArray) ++ ⟨#[58]⟩ ++ n)) W:=fun W=>run_string_add_sum W _ _ (by rw [ByteArray.size_append];show 8+1+n.size≤_;omega)
    go_region_held3 (fun w'=>w'.cell? ⟨w.heap.size,0,none⟩=some (.int .i64 4)∧w'.cell? ⟨w.heap.size,1,none⟩=some (.string n)∧Below w.heap.size w w'∧w.heap.size<w'.heap.size) (first | exact ⟨c0,c1,hB.drew,hlt⟩ | assumption | go_keep)
     (first | (go_at_call 154;refine (spaces_held w _ _ _ (by assumption)).mono ?_;rintro e w' ⟨rfl,k⟩))
    go_wp2
    go_ret
    exact ⟨by rw [HF.out];exact congrArg (fun x=>Ending.returned (.string x)) (bytes_ext (by simp;rfl)),k.2.2.1⟩
   ·have hx:=space_at5
    have ha:∀ W,(Op.stringOp .add ((⟨#[80,114,111,106,101,99,116]⟩:ByteArray) ++ ⟨#[58]⟩) n).run Tryz.prog W=.ok (.string ((⟨#[80,114,111,106,101,99,116]⟩:ByteArray) ++ ⟨#[58]⟩ ++ n)) W:=fun W=>run_string_add_sum W _ _ (by rw [ByteArray.size_append];show 7+1+n.size≤_;omega)
    go_region_held3 (fun w'=>w'.cell? ⟨w.heap.size,0,none⟩=some (.int .i64 5)∧w'.cell? ⟨w.heap.size,1,none⟩=some (.string n)∧Below w.heap.size w w'∧w.heap.size<w'.heap.size) (first | exact ⟨c0,c1,hB.drew,hlt⟩ | assumption | go_keep)
     (first | (go_at_call 154;refine (spaces_held w _ _ _ (by assumption)).mono ?_;rintro e w' ⟨rfl,k⟩))
    go_wp2
    go_ret
    exact ⟨by rw [HF.out];exact congrArg (fun x=>Ending.returned (.string x)) (bytes_ext (by simp;rfl)),k.2.2.1⟩
end Go.Proofs
namespace Go.Proofs
open Go.RowKit Go.Sp
theorem info5:(Tryz.prog.info? 5).map (fun i=>(i.zero,i.size,i.bytes))=some (some (.int .u8 0),1,1):=by kernel_rfl
theorem sing_step (acc:Bs) (c:UInt8) (r:Bs):sing acc (c :: r)=sing (if c≠32∨(acc≠[]∧acc.getLast? ≠ some 32) then acc ++ [c] else acc) r:=rfl
structure SingRel (s:ByteArray) (w wr:World) (k:Nat) (acc:Bs):Prop where
 own:wr.ownsRow w.heap.size 5 1 (.slice (some ⟨w.heap.size,0,none⟩) acc.length s.size) acc.length (Lib.byteCells acc)
 below:Below w.heap.size w wr
 len:acc.length≤k
 eq:sing [] s.data.toList=sing acc (s.data.toList.drop k)
theorem SingRel.last {s:ByteArray} {w wr:World} {k:Nat} {acc:Bs} (h:SingRel s w wr k acc) (hp:0<acc.length):∃ c:UInt8,acc.getLast? = some c∧wr.cell? ⟨w.heap.size,acc.length - 1,none⟩=some (.int .u8 (c.toNat:Int)):=by
 have hc:acc[acc.length - 1]? = some (acc[acc.length - 1]'(by omega)):=List.getElem?_eq_getElem _
 refine ⟨_,by rw [List.getLast?_eq_getElem?];exact hc,?_⟩
 have:=h.own.cells (g:=w.heap.size) rfl (acc.length - 1) (.int .u8 ((acc[acc.length - 1]'(by omega)).toNat:Int)) (by simp [Lib.byteCells,hc])
 have e:(⟨w.heap.size,0,none⟩:Addr).add (acc.length - 1)=⟨w.heap.size,acc.length - 1,none⟩:=by
  unfold Addr.add
  by_cases h0:acc.length - 1=0 <;> simp [h0]
 rw [e] at this
 exact this
theorem SingRel.skip {s:ByteArray} {w wr:World} {k:Nat} {acc:Bs} (h:SingRel s w wr k acc) (_:k<s.size) (he:sing acc (s.data.toList.drop k)=sing acc (s.data.toList.drop (k+1))):SingRel s w wr (k+1) acc :=
 ⟨h.own,h.below,Nat.le_succ_of_le h.len,h.eq.trans he⟩
theorem SingRel.push {s:ByteArray} {w wr w1:World} {k:Nat} {acc:Bs} {c:UInt8} {o:Obj} (h:SingRel s w wr k acc) (_:k<s.size) (he:sing acc (s.data.toList.drop k)=sing (acc ++ [c]) (s.data.toList.drop (k+1)))
 (hown:w1.ownsRow w.heap.size 5 1 (.slice (some ⟨w.heap.size,0,none⟩) (acc.length+1) s.size) (acc.length+1) (Lib.byteCells acc ++ [.int .u8 (c.toNat:Int)])) (hg:(wr.alloc o).grownBy w1 (some w.heap.size)):SingRel s w w1 (k+1) (acc ++ [c]):=by
 refine ⟨?_,(h.below.alloc h.below.size _).grown hg (by have:=h.below.size;simp;omega) (fun k hk=>by rw [← Option.some.inj hk];exact Nat.le_refl _),by have:=h.len;simp;omega,h.eq.trans he⟩
 rw [Lib.byteCells_append,List.length_append]
 exact hown
set_option maxRecDepth 100000 in
set_option maxHeartbeats 4000000 in
theorem single_ok (s:ByteArray) (w:World) (hs:s.size≤35184372088832):Calls Tryz.prog 275 #[.string s] w (RetB (.string ⟨(single s.data.toList).toArray⟩) w):=by
 obtain ⟨i0,hi,hz0,hz1,hz2⟩:=info_parts info5
 go_enter Tryz.func275,Tryz.ntmps275
 go_wp2_with (refine wpList_make_own _ rfl (.const (.int .i64 0)) (.tmp 6) 91 rfl w.heap.size 5 i0 (.int .u8 0) 1 Tryz.underlying91 hi hz0 hz1 .i64 .i64 (s.size:Int) s.size rfl rfl rfl ?b2 ?b3 (Nat.le_refl _) ?_)
 case b2=>rw [hz2];omega
 case b3=>unfold maxLen;omega
 intro w0 hown0 hgrow0
 go_wp2
 go_loopw [3,4] (fun v i wr=>∃ (k:Nat) (acc:Bs),k≤s.size∧i=.int .i64 k∧v=.slice (some ⟨w.heap.size,0,none⟩) acc.length s.size∧SingRel s w wr k acc) (fun _ i _=>s.size - (intOf i).toNat)
 case atStart=>exact ⟨0,[],Nat.zero_le _,rfl,rfl,hown0,(Below.refl _ _).grown hgrow0 (Nat.le_refl _) (fun k h=>by cases h),Nat.le_refl _,rfl⟩
 case round =>
  obtain ⟨k,acc,hk,rfl,rfl,hR⟩:=hrel
  have hl:=hR.len
  have hz:=hR.below.size
  by_cases hlt:k<s.size
  ·have hst:=sing_step acc s[k] (s.data.toList.drop (k+1))
   rw [← drop_one s k hlt] at hst
   by_cases hc:s[k]=32
   ·have f1:((s[k].toNat:Int) != 32)=false:=by rw [hc];rfl
    by_cases ha:0<acc.length
    ·obtain ⟨c,hl1,hl2⟩:=hR.last ha
     have hne:acc≠[]:=by rintro rfl;cases ha
     by_cases h32:c=32
     ·have f2:((c.toNat:Int) != 32)=false:=by rw [h32];rfl
      rw [if_neg (by rw [hl1,h32];simp [hc])] at hst
      have HST:=Lib.hid hst;clear hst hc h32 hl1 hne
      go_wp2
      go_roundw
      case rel=>exact ⟨k+1,acc,by omega,by go_num,rfl,hR.skip hlt HST.out⟩
      case measure=>simp [intOf];omega
     ·have f2:((c.toNat:Int) != 32)=true:=by
       have:=beq_no h32
       simpa using this
      rw [if_pos (.inr ⟨hne,by rw [hl1];simp [h32]⟩)] at hst
      have HST:=Lib.hid hst;clear hst hc h32 hl1 hne
      go_wp2_with (at_builtin;refine wpList_append_fits _ rfl (.tmp 32) (.tmp 36) 91 rfl w.heap.size 5 i0 1 Tryz.underlying91 hi hz1 w.heap.size acc.length s.size _ rfl (hR.own.alloc _) ⟨wr.heap.size,0,none⟩ 1 1 [.int .u8 (s[k].toNat:Int)] rfl rfl (by intro t u ht;match t,ht with | 0,ht=>simp at ht;subst ht;simp [Addr.add]) (by intro u hu;simp at hu;subst hu;rfl) (by omega) ?_;intro w1 hown1 hgrow1)
      go_wp2
      go_roundw
      case rel=>exact ⟨k+1,acc ++ [s[k]],by omega,by go_num,by simp,hR.push hlt HST.out hown1 hgrow1⟩
      case measure=>simp [intOf];omega
    ·have f2:decide (0<acc.length)=false:=decide_eq_false ha
     obtain rfl:acc=[]:=List.eq_nil_of_length_eq_zero (by omega)
     rw [if_neg (by simp [hc])] at hst
     have HST:=Lib.hid hst;clear hst hc
     go_wp2
     go_roundw
     case rel=>exact ⟨k+1,[],by omega,by go_num,rfl,hR.skip hlt HST.out⟩
     case measure=>simp [intOf];omega
   ·have f1:((s[k].toNat:Int) != 32)=true:=by
     have:=beq_no hc
     simpa using this
    rw [if_pos (.inl hc)] at hst
    have HST:=Lib.hid hst;clear hst hc
    go_wp2_with (at_builtin;refine wpList_append_fits _ rfl (.tmp 32) (.tmp 36) 91 rfl w.heap.size 5 i0 1 Tryz.underlying91 hi hz1 w.heap.size acc.length s.size _ rfl (hR.own.alloc _) ⟨wr.heap.size,0,none⟩ 1 1 [.int .u8 (s[k].toNat:Int)] rfl rfl (by intro t u ht;match t,ht with | 0,ht=>simp at ht;subst ht;simp [Addr.add]) (by intro u hu;simp at hu;subst hu;rfl) (by omega) ?_;intro w1 hown1 hgrow1)
    go_wp2
    go_roundw
    case rel=>exact ⟨k+1,acc ++ [s[k]],by omega,by go_num,by simp,hR.push hlt HST.out hown1 hgrow1⟩
    case measure=>simp [intOf];omega
  ·have hse:single s.data.toList=Lib.trimSuffix acc [32]:=by
    unfold single
    rw [hR.eq,List.drop_of_length_le (by rw [← size_len];omega)]
    rfl
   have HS:=Lib.hid hse;clear hse
   have hback:=run_convert_bytes_back (P:=Tryz.prog) wr 91 9 5 ⟨w.heap.size,0,none⟩ s.size acc Tryz.underlying91 Tryz.underlying5 Tryz.underlying9 (fun j hj =>
    hR.own.cells (g:=w.heap.size) rfl j (.int .u8 (acc[j].toNat:Int)) (by simp [Lib.byteCells,hj]))
   go_wp2_with (go_at_call 44;refine (trimSuffixL acc 32 _ (by omega)).mono ?_)
   rintro e W1 ⟨rfl,b1⟩
   go_wp2
   go_ret
   exact ⟨by rw [HS.out];rfl,hR.below.trans (b1.mono hz)⟩
end Go.Proofs
namespace Go.Proofs
open Go.RowKit Go.Sp
theorem RowS.put {w:World} {B:Nat} {L:List Bs} (h:RowS w B L) {i:Nat} (hi:i<L.length) (p:Bs):RowS (w.setCell ⟨B,i,none⟩ (.string ⟨p.toArray⟩)) B (L.set i p) where
 cell:=fun j hj=>by
  rw [List.length_set] at hj
  by_cases e:j=i
  ·subst e
   rw [World.cell?_setCell_same _ _ _ (h.cell j hj)]
   simp [hj]
  ·rw [World.cell?_setCell_other _ ⟨B,i,none⟩ ⟨B,j,none⟩ _ (by simp <;> omega),h.cell j hj]
   simp [List.getD,List.getElem?_set_ne (Ne.symm e)]
 frozen:=fun j hj=>by
  rw [List.length_set] at hj
  rw [World.frozen?_setCell]
  exact h.frozen j hj
theorem RowS.far {w w':World} {B C:Nat} {L:List Bs} (h:RowS w B L) (b:Below C w w') (hB:B<C):RowS w' B L :=
 ⟨fun j hj=>by rw [b.cell (p:=⟨B,j,none⟩) hB];exact h.cell j hj,fun j hj=>by rw [b.frozen (p:=⟨B,j,none⟩) hB];exact h.frozen j hj⟩
def slMix (L:List Bs) (k:Nat):List Bs:=(L.mapIdx (slash1 L.length)).take k ++ L.drop k
theorem slMix_len (L:List Bs) (k:Nat):(slMix L k).length=L.length:=by
 unfold slMix
 rw [List.length_append,List.length_take,List.length_drop,List.length_mapIdx]
 omega
theorem slMix_at (L:List Bs) (k:Nat):(slMix L k).getD k []=L.getD k []:=by
 unfold slMix
 by_cases h:k<L.length
 ·rw [List.getD,List.getElem?_append_right (by simp;omega),List.length_take,List.length_mapIdx,Nat.min_eq_left (by omega),Nat.sub_self,List.getElem?_drop]
  rfl
 ·rw [List.getD,List.getD,List.getElem?_eq_none (by simp;omega),List.getElem?_eq_none (by omega)]
theorem slMix_step (L:List Bs) (k:Nat) (h:k<L.length):(slMix L k).set k (slash1 L.length k (L.getD k []))=slMix L (k+1):=by
 unfold slMix
 have h1:((L.mapIdx (slash1 L.length)).take k).length=k:=by rw [List.length_take,List.length_mapIdx];omega
 have h2:L.drop k=L.getD k [] :: L.drop (k+1):=by
  rw [List.drop_eq_getElem_cons h,List.getD,List.getElem?_eq_getElem h]
  rfl
 have h3:(L.mapIdx (slash1 L.length)).take (k+1)=(L.mapIdx (slash1 L.length)).take k ++ [slash1 L.length k (L.getD k [])]:=by
  rw [List.take_succ_eq_append_getElem (by simpa using h)]
  congr 1
  simp [List.getD,List.getElem?_eq_getElem h]
 rw [List.set_append_right _ _ (by omega),h1,Nat.sub_self,h2,List.set_cons_zero,h3,List.append_assoc]
 rfl
theorem set_self {L:List Bs} {k:Nat} (h:k<L.length):L.set k (L.getD k [])=L:=by
 rw [List.getD,List.getElem?_eq_getElem h]
 exact List.set_getElem_self h
theorem slMix_end (L:List Bs) (k:Nat) (h:L.length≤k):slMix L k=L.mapIdx (slash1 L.length):=by
 unfold slMix
 rw [List.take_of_length_le (by simpa using h),List.drop_of_length_le h,List.append_nil]
theorem joinL {w:World} {B:Nat} {L:List Bs} (c:UInt8) (h:RowS w B L) (hB:B<w.heap.size) (hN:L.length≤140737488355328) (hlen:(Lib.join L [c]).length≤140737488355328) :
 Calls Tryz.prog 40 #[.slice (some ⟨B,0,none⟩) L.length L.length,.string ⟨#[c]⟩] w (RetB (.string ⟨(Lib.join L [c]).toArray⟩) w):=by
 have e:(L.map fun l=>(⟨l.toArray⟩:ByteArray)).map (·.data.toList)=L:=by
  rw [List.map_map]
  exact List.map_id' L
 have:=Tryz.strings_Join B 0 L.length (L.map fun l=>(⟨l.toArray⟩:ByteArray)) ⟨#[c]⟩ w (fun j x hx=>by
  rw [List.getElem?_map] at hx
  obtain ⟨l,hl,rfl⟩:=Option.map_eq_some_iff.1 hx
  have h2:=h.cell j (List.getElem?_eq_some_iff.1 hl).1
  rw [List.getD,hl] at h2
  rw [Nat.zero_add]
  exact h2) hB (by rw [List.length_map];exact hN) (by rw [List.length_map];exact Nat.le_refl _) (by rw [e];exact hlen)
 rw [e,List.length_map] at this
 exact this
def lens (L:List Bs):Nat:=(L.map List.length).sum
theorem lens_cons (p:Bs) (L:List Bs):lens (p :: L)=p.length+lens L:=rfl
theorem splitL_lens (c:UInt8) (s:Bs):lens (splitL c s)+(splitL c s).length=s.length+1:=by
 induction s with
 | nil=>rfl
 | cons x r ih =>
  unfold splitL
  split
  ·rw [lens_cons,List.length_cons,List.length_nil,List.length_cons];omega
  ·obtain ⟨p,ps,h⟩:=splitL_cons c r
   rw [h] at ih ⊢
   simp only [lens_cons,List.length_cons] at ih ⊢
   omega
theorem joinTail_len (c:UInt8):∀ L:List Bs,(Lib.joinTail [c] L).length=lens L+L.length
 | []=>rfl
 | p :: r=>by
  have:=joinTail_len c r
  simp only [Lib.joinTail,List.map_cons,List.flatten_cons,List.length_append,lens_cons,List.length_cons,List.length_nil] at this ⊢
  omega
theorem join_len (c:UInt8) (L:List Bs):(Lib.join L [c]).length≤lens L+L.length:=by
 cases L with
 | nil=>simp [Lib.join]
 | cons p r =>
  rw [Lib.join_cons,List.length_append,joinTail_len,lens_cons,List.length_cons]
  omega
theorem trimLeftB_len (p:Bs) (c:UInt8):(Lib.trimLeftB p c).length≤p.length:=(List.dropWhile_sublist _).length_le
theorem trimRightB_len (p:Bs) (c:UInt8):(Lib.trimRightB p c).length≤p.length:=by
 unfold Lib.trimRightB
 rw [List.length_reverse]
 have:=(List.dropWhile_sublist (fun x=>x == c) (l:=p.reverse)).length_le
 rwa [List.length_reverse] at this
theorem slash1_len (n i:Nat) (p:Bs):(slash1 n i p).length≤p.length:=by
 have h1:=trimLeftB_len p 32
 unfold slash1
 split
 ·refine Nat.le_trans (trimRightB_len _ _) ?_
  split
  ·exact h1
  ·exact Nat.le_refl _
 ·split
  ·exact h1
  ·exact Nat.le_refl _
theorem lens_mapIdx (f:Nat→Bs→Bs) (hf:∀ i p,(f i p).length≤p.length) (L:List Bs):lens (L.mapIdx f)≤lens L:=by
 induction L generalizing f with
 | nil=>exact Nat.le_refl _
 | cons p r ih =>
  rw [List.mapIdx_cons,lens_cons,lens_cons]
  have:=ih (fun i=>f (i+1)) (fun i p=>hf (i+1) p)
  have:=hf 0 p
  omega
theorem trimLeftL (l:Bs) (w:World):Calls Tryz.prog 394 #[.string ⟨l.toArray⟩,.string ⟨#[32]⟩] w fun e w'=>e=.returned (.string ⟨(Lib.trimLeftB l 32).toArray⟩)∧w'=w:=Tryz.strings_TrimLeft_one ⟨l.toArray⟩ 32 (by decide) w
theorem trimRightL (l:Bs) (w:World) (h:l.length≤35184372088832):Calls Tryz.prog 395 #[.string ⟨l.toArray⟩,.string ⟨#[32]⟩] w fun e w'=>e=.returned (.string ⟨(Lib.trimRightB l 32).toArray⟩)∧w'=w:=Tryz.strings_TrimRight_one ⟨l.toArray⟩ 32 (by decide) w (by show l.length≤_;omega)
set_option maxRecDepth 100000 in
set_option maxHeartbeats 4000000 in
theorem slashes_ok (s:ByteArray) (w:World) (hs:s.size<4294967281) (hg:Gl w):Calls Tryz.prog 278 #[.string s] w (RetB (.string ⟨(slashes s.data.toList).toArray⟩) w):=by
 have hLl:=splitL_len 47 s.data.toList
 have hLp:=fun j=>splitL_at 47 s.data.toList j
 rw [← size_len] at hLl hLp
 have hjl:(Lib.join ((splitL 47 s.data.toList).mapIdx (slash1 (splitL 47 s.data.toList).length)) [47]).length≤140737488355328:=by
  have h1:=join_len 47 ((splitL 47 s.data.toList).mapIdx (slash1 (splitL 47 s.data.toList).length))
  have h2:=lens_mapIdx (slash1 (splitL 47 s.data.toList).length) (fun i p=>slash1_len _ i p) (splitL 47 s.data.toList)
  have h3:=splitL_lens 47 s.data.toList
  rw [List.length_mapIdx] at h1
  rw [← size_len] at h3
  omega
 have hse:slashes s.data.toList=Lib.join ((splitL 47 s.data.toList).mapIdx (slash1 (splitL 47 s.data.toList).length)) [47]:=rfl
 have HS:=Lib.hid hse;clear hse
 have hsp:=splitOk s 47 w hs hg
 generalize splitL 47 s.data.toList=L at *
 go_enter Tryz.func278,Tryz.ntmps278
 go_wp2_with (go_at_call 43;refine hsp.mono ?_)
 rintro e W1 ⟨rfl,b1,r1,z1⟩
 clear hsp
 go_wp2
 go_loopw [9] (fun i wr=>∃ k:Nat,k≤L.length∧i=.int .i64 k∧RowS wr w.heap.size (slMix L k)∧Below w.heap.size w wr∧w.heap.size<wr.heap.size) (fun i _=>L.length - (intOf i).toNat)
 case atStart=>exact ⟨0,Nat.zero_le _,rfl,r1,b1,z1⟩
 case round =>
  obtain ⟨k,hk,rfl,hR,hB,hz⟩:=hrel
  clear r1 b1 z1
  by_cases hlt:k<L.length
  ·have hc:=hR.cell k (by rw [slMix_len];exact hlt)
   have hf:=hR.frozen k (by rw [slMix_len];exact hlt)
   rw [slMix_at] at hc
   have hp:=hLp k
   have hlen2:k<(slMix L k).length:=by rw [slMix_len];exact hlt
   have hstep:=slMix_step L k hlt
   unfold slash1 at hstep
   clear hLp
   have hat:=slMix_at L k
   generalize L.getD k []=p at hc hp hstep hat
   have HAT:=Lib.hid hat;clear hat
   have hl1:=trimLeftB_len p 32
   by_cases h0:0<k <;> by_cases h1:k+1<L.length
   ·rw [if_pos h1,if_pos h0] at hstep
    have HT:=Lib.hid hstep;clear hstep
    go_wp2_with (go_at_call 394;refine (trimLeftL _ _).mono ?_)
    rintro e W2 ⟨rfl,rfl⟩
    go_wp2_with (go_at_call 395;refine (trimRightL _ _ (by omega)).mono ?_)
    rintro e W3 ⟨rfl,rfl⟩
    go_wp2
    go_roundw
    case rel=>exact ⟨k+1,by omega,by go_num,by rw [← HT.out];have:=(hR.put hlen2 (Lib.trimLeftB p 32)).put (by rw [List.length_set];exact hlen2) (Lib.trimRightB (Lib.trimLeftB p 32) 32);rwa [List.set_set] at this,(hB.setCell (by simp) _).setCell (by simp) _,by simpa using hz⟩
    case measure=>simp [intOf];omega
   ·rw [if_neg h1,if_pos h0] at hstep
    have HT:=Lib.hid hstep;clear hstep
    go_wp2_with (go_at_call 394;refine (trimLeftL _ _).mono ?_)
    rintro e W2 ⟨rfl,rfl⟩
    go_wp2
    go_roundw
    case rel=>exact ⟨k+1,by omega,by go_num,by rw [← HT.out];exact hR.put hlen2 (Lib.trimLeftB p 32),hB.setCell (by simp) _,by simpa using hz⟩
    case measure=>simp [intOf];omega
   ·rw [if_pos h1,if_neg h0] at hstep
    have HT:=Lib.hid hstep;clear hstep
    go_wp2_with (go_at_call 395;refine (trimRightL _ _ (by omega)).mono ?_)
    rintro e W2 ⟨rfl,rfl⟩
    go_wp2
    go_roundw
    case rel=>exact ⟨k+1,by omega,by go_num,by rw [← HT.out];exact hR.put hlen2 (Lib.trimRightB p 32),hB.setCell (by simp) _,by simpa using hz⟩
    case measure=>simp [intOf];omega
   ·rw [if_neg h1,if_neg h0] at hstep
    have HT:=Lib.hid hstep;clear hstep
    go_wp2
    go_roundw
    case rel=>exact ⟨k+1,by omega,by go_num,by rw [← HT.out,← HAT.out,set_self hlen2];exact hR,hB,hz⟩
    case measure=>simp [intOf];omega
  ·have hRe:=hR
   rw [slMix_end L k (by omega)] at hRe
   have hll:(L.mapIdx (slash1 L.length)).length=L.length:=List.length_mapIdx
   have hJ:=joinL 47 hRe hz (by rw [hll];omega) hjl
   rw [hll] at hJ
   clear hLp hRe
   go_wp2_with (go_at_call 40;refine hJ.mono ?_)
   rintro e W2 ⟨rfl,b2⟩
   go_wp2
   go_ret
   exact ⟨by rw [HS.out];rfl,hB.trans (b2.mono (by omega))⟩
end Go.Proofs
namespace Go.Proofs
open Go.RowKit Go.Sp
theorem replaceK_len (k:Nat):∀ s:Bs,(Lib.replaceK [95] [32] k s).length≤s.length:=by
 induction k with
 | zero=>intro s;exact Nat.le_of_eq (by simp [Lib.replaceK])
 | succ k ih =>
  intro s
  by_cases h:Lib.index s [95] = -1
  ·rw [Lib.replaceK,if_pos (by simpa using h)]
   exact Nat.le_refl _
  ·have hge:=Lib.index_ge s [95]
   obtain ⟨i,hi⟩:∃ i:Nat,Lib.index s [95]=i:=⟨(Lib.index s [95]).toNat,by omega⟩
   rw [Lib.replaceK_hit _ _ _ _ i hi]
   have h2:=ih (s.drop (i+1))
   rw [Lib.index_one] at hi
   have h3:=(List.getElem?_eq_some_iff.1 (Lib.indexByte_some hi).1).1
   rw [List.length_drop] at h2
   rw [List.length_append,List.length_append,List.length_take,Nat.min_eq_left (by omega)]
   show i+1+(Lib.replaceK [95] [32] k (s.drop (i+1))).length≤s.length
   omega
theorem replace_len (s:Bs):(Lib.replaceAll s [95] [32]).length≤s.length:=by
 unfold Lib.replaceAll Lib.replace
 exact replaceK_len _ s
end Go.Proofs
