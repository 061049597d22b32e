/- A part of the proof: Rh, Rj -/
import Derived.Test.YtimfnccfnefajaaGreatDoorVRa
import Derived.Deep.RegionHeld3
import Derived.Deep.RegionWith
set_option linter.unusedSimpArgs false
set_option linter.unusedVariables false
namespace Go.Proofs
open Go.RowKit Go.Sp
theorem okAt_idx (n:ByteArray) (k:Nat) (hk:k<n.size):okAt n.data.toList k=true↔32≤(n[k].toNat:Int)∧¬ (n[k].toNat:Int)=127∧Lib.index [60,62,91,93,123,125,124,35,95] [n[k]]<0∧¬ ((n[k].toNat:Int)=32∧0<k∧(n[k - 1].toNat:Int)=32):=by
 rw [Lib.index_one]
 exact okAt_num n k hk
theorem pre_prefR (s:Bs):(pre s).isNone=decide ((prefR s).1=0):=by
 unfold pre prefR
 by_cases h:0≤Lib.index s [58]
 ·rw [if_pos h,if_neg (by omega),chop_eq]
  have hc:(Lib.cut s [58]).1=s.take (Lib.index s [58]).toNat:=by unfold Lib.cut;rw [if_pos h]
  rw [hc]
  cases hs:spaceOf (Lib.trimSuffix (s.take (Lib.index s [58]).toNat) [32]) with
  | none=>rfl
  | some n =>
   have:n≠0:=by
    rintro rfl
    have:=List.mem_of_find?_eq_some hs
    simp at this
   simp [this]
 ·rw [if_neg h,if_pos (by omega)];rfl
theorem index_last (x:ByteArray) (h:0<x.size) (W:World):(Instr.index 9 (.string x) (.int .i64 ((x.size:Int) - 1))).run Tryz.prog W=.ok (.int .u8 x[x.size - 1].toNat) W:=by
 have h1:(0:Int)≤(x.size:Int) - 1:=by omega
 have h2:(x.size:Int) - 1<x.size:=by omega
 rw [run_index_string W 9 x .i64 _ und9s,dif_pos ⟨h1,h2⟩]
 have e:((x.size:Int) - 1).toNat=x.size - 1:=by omega
 simp only [e]
set_option maxRecDepth 100000 in
set_option maxHeartbeats 8000000 in
theorem validR_ok (sp:Int) (n:ByteArray) (w:World) (hs:n.size<4294960000):Calls Tryz.prog 46 #[.agg #[.int .i64 sp,.string n]] w (RetB (.bool (valid sp n.data.toList)) w):=by
 by_cases h2:sp<0∨6≤sp∨n.size<1∨100<n.size
 ·have HV:=Lib.hid (valid_no (sp:=sp) (n:=n) (by omega))
  go_enter Tryz.func46,Tryz.ntmps46
  go_wp2
  all_goals first
   | (exfalso;omega)
   | (go_ret
      exact ⟨by rw [HV.out];rfl,(Below.refl _ w).alloc (Nat.le_refl _) _⟩)
 ·have a1:0≤sp:=by omega
  have a2:sp<6:=by omega
  have a3:1≤(n.size:Int):=by omega
  have a4:(n.size:Int)≤100:=by omega
  have hb0:Below w.heap.size w (w.alloc (.cells #[.int .i64 sp,.string n] 30)):=(Below.refl _ w).alloc (Nat.le_refl _) _
  have hz:(w.alloc (.cells #[.int .i64 sp,.string n] 30)).heap.size=w.heap.size+1:=by simp
  have c0:(w.alloc (.cells #[.int .i64 sp,.string n] 30)).cell? ⟨w.heap.size,0,none⟩=some (.int .i64 sp):=by simp [World.cell?,World.alloc,-World.alloc_eq]
  have c1:(w.alloc (.cells #[.int .i64 sp,.string n] 30)).cell? ⟨w.heap.size,1,none⟩=some (.string n):=by simp [World.cell?,World.alloc,-World.alloc_eq]
  have hI:=fun (c:UInt8) W=>indexR_ok ⟨#[60,62,91,93,123,125,124,35,95]⟩ c W (by decide)
  change ∀ c W,Calls _ _ _ _ (RetB (.int .i64 (Lib.index [60,62,91,93,123,125,124,35,95] [c])) W) at hI
  have hsl:=slice_one n
  clear h2
  go_enter Tryz.func46,Tryz.ntmps46
  go_upto_region 1 with fail
  generalize w.alloc _=W0 at *
  go_wp2
  go_loopw [4] (fun i wr=>∃ k:Nat,k≤n.size∧i=.int .i64 k∧Below W0.heap.size W0 wr∧∀ j,j<k→okAt n.data.toList j=true) (fun i _=>n.size - (intOf i).toNat)
  case atStart=>exact ⟨0,Nat.zero_le _,rfl,Below.refl _ _,fun _ h=>by omega⟩
  case round =>
   obtain ⟨k,hk,rfl,hW,hok⟩:=hrel
   have HOK:=Lib.hid hok;clear hok
   have hB:Below w.heap.size w wr:=hb0.trans (hW.mono (by omega))
   by_cases hlt:k<n.size
   ·have HN:=Lib.hid (okAt_idx n k hlt)
    have hIk:=hI n[k]
    have hx:=hsl k hlt
    generalize Lib.index [60,62,91,93,123,125,124,35,95] [n[k]]=z at *
    have HNo:=Lib.hid (fun h:okAt n.data.toList k=false=>valid_no (sp:=sp) (n:=n) (.inr (.inr (.inr (.inr (.inl (clean_no hlt h)))))))
    clear hI hsl
    by_cases q1:(n[k].toNat:Int)<32
    ·have hf:okAt n.data.toList k=false:=by rw [← Bool.not_eq_true,HN.out];omega
     have HF:=Lib.hid (HNo.out hf)
     clear hf HN HNo
     go_wp2
     go_ret
     exact ⟨by rw [HF.out];rfl,hB⟩
    by_cases q2:((n[k].toNat:Int) == 127)=true
    ·have hf:okAt n.data.toList k=false:=by rw [← Bool.not_eq_true,HN.out];rw [beq_iff_eq] at q2;omega
     have HF:=Lib.hid (HNo.out hf)
     clear hf HN HNo
     go_wp2
     go_ret
     exact ⟨by rw [HF.out];rfl,hB⟩
    rw [Bool.not_eq_true] at q2
    by_cases q3:0≤z
    ·have hf:okAt n.data.toList k=false:=by rw [← Bool.not_eq_true,HN.out];omega
     have HF:=Lib.hid (HNo.out hf)
     clear hf HN HNo
     go_wp2_with (go_at_call 70;refine (hIk _).mono ?_)
     rintro e W1 ⟨rfl,b1⟩
     have hB1:=hB.trans (b1.mono hB.size)
     go_wp2
     go_ret
     exact ⟨by rw [HF.out];rfl,hB1⟩
    by_cases q4:((n[k].toNat:Int) == 32)=true
    ·by_cases q5:0<k
     ·have hk1:k - 1<n.size:=by omega
      by_cases q6:((n[k - 1].toNat:Int) == 32)=true
      ·have hf:okAt n.data.toList k=false:=by rw [← Bool.not_eq_true,HN.out];rw [beq_iff_eq] at q4 q6;omega
       have HF:=Lib.hid (HNo.out hf)
       clear hf HN HNo
       go_wp2_with (go_at_call 70;refine (hIk _).mono ?_)
       rintro e W1 ⟨rfl,b1⟩
       have hB1:=hB.trans (b1.mono hB.size)
       go_wp2
       go_ret
       exact ⟨by rw [HF.out];rfl,hB1⟩
      ·rw [Bool.not_eq_true] at q6
       have ht:okAt n.data.toList k=true:=by rw [HN.out];rw [beq_eq_false_iff_ne] at q2 q6;rw [beq_iff_eq] at q4;omega
       have HT:=Lib.hid ht
       clear ht HN HNo
       go_wp2_with (go_at_call 70;refine (hIk _).mono ?_)
       rintro e W1 ⟨rfl,b1⟩
       have hW1:=hW.trans (b1.mono hW.size)
       go_wp2
       go_roundw
       case rel=>exact ⟨k+1,by omega,by go_num,hW1,fun j hj=>if e:j=k then by rw [e];exact HT.out else HOK.out j (by omega)⟩
       case measure=>simp [intOf];omega
     ·have ht:okAt n.data.toList k=true:=by rw [HN.out];rw [beq_eq_false_iff_ne] at q2;omega
      have HT:=Lib.hid ht
      clear ht HN HNo
      go_wp2_with (go_at_call 70;refine (hIk _).mono ?_)
      rintro e W1 ⟨rfl,b1⟩
      have hW1:=hW.trans (b1.mono hW.size)
      go_wp2
      go_roundw
      case rel=>exact ⟨k+1,by omega,by go_num,hW1,fun j hj=>if e:j=k then by rw [e];exact HT.out else HOK.out j (by omega)⟩
      case measure=>simp [intOf];omega
    ·rw [Bool.not_eq_true] at q4
     have ht:okAt n.data.toList k=true:=by rw [HN.out];rw [beq_eq_false_iff_ne] at q2 q4;omega
     have HT:=Lib.hid ht
     clear ht HN HNo
     go_wp2_with (go_at_call 70;refine (hIk _).mono ?_)
     rintro e W1 ⟨rfl,b1⟩
     have hW1:=hW.trans (b1.mono hW.size)
     go_wp2
     go_roundw
     case rel=>exact ⟨k+1,by omega,by go_num,hW1,fun j hj=>if e:j=k then by rw [e];exact HT.out else HOK.out j (by omega)⟩
     case measure=>simp [intOf];omega
   ·have hcl:cleanB n.data.toList=true:=clean_yes fun j hj=>HOK.out j (by omega)
    have HV:=Lib.hid (fun h5=>valid_tail (sp:=sp) (n:=n) a1 a2 (by omega) (by omega) hcl h5)
    have c0':=(hW.cell (p:=⟨w.heap.size,0,none⟩) (by simp;omega)).trans c0
    have hn0:0<n.size:=by omega
    have hP:=parts_ok' n wr hs
    have hLp:=fun j=>splitL_at 47 n.data.toList j
    rw [← size_len] at hLp
    have HNo:=Lib.hid (fun h=>valid_no (sp:=sp) (n:=n) (.inr (.inr (.inr (.inr (.inr h))))))
    have hLl:=splitL_len 47 n.data.toList
    rw [← size_len] at hLl
    have hLne:0<(splitL 47 n.data.toList).length:=by
     obtain ⟨p,ps,hp⟩:=splitL_cons 47 n.data.toList
     rw [hp];exact Nat.zero_lt_succ _
    generalize splitL 47 n.data.toList=L at *
    have hwr:w.heap.size<wr.heap.size:=by have:=hW.size;omega
    clear hI hsl HOK hcl c0 c1 hW
    go_wp2_with (go_at_call 71;refine hP.mono ?_)
    rintro e W1 ⟨b1,v,rfl,hown⟩
    obtain ⟨m,hm⟩:∃ m,L.length=m+1:=⟨L.length - 1,by omega⟩
    have hown':=hown
    rw [hm] at hown'
    obtain ⟨g,cap,rfl,hbg⟩:=owns_succ hown'
    clear hown'
    rw [← hm] at hown ⊢
    have hB1:=hB.trans (b1.mono hB.size)
    have c0'':=(b1.cell (p:=⟨w.heap.size,0,none⟩) hwr).trans c0'
    clear b1 hP hB c0'
    have hrow:∀ j,j<L.length→W1.cell? ⟨g,j,none⟩=some (.string ⟨(L.getD j []).toArray⟩):=fun j hj=>(hown.cellAt j (by omega)).trans (strs_at hj)
    have hgl:=(hown.lt g rfl).2
    clear hown
    have hw1:w.heap.size<W1.heap.size:=Nat.lt_of_lt_of_le hwr (by omega)
    go_wp2
    go_loopw [6] (fun i wr=>∃ k:Nat,k≤L.length∧i=.int .i64 k∧Below W1.heap.size W1 wr∧∀ j,j<k→partOk (L.getD j [])=true) (fun i _=>L.length - (intOf i).toNat)
    case atStart=>exact ⟨0,Nat.zero_le _,rfl,Below.refl _ _,fun _ h=>by omega⟩
    case round =>
     obtain ⟨j,hj,rfl,hQ,hok⟩:=hrel
     have HOK:=Lib.hid hok;clear hok
     have hBq:=hB1.trans (hQ.mono (Nat.le_of_lt hw1))
     by_cases hjl:j<L.length
     ·have hc:=(hQ.cell (p:=⟨g,j,none⟩) hgl).trans (hrow j hjl)
      generalize hx:(⟨(L.getD j []).toArray⟩:ByteArray)=x at hc
      have hxd:x.data.toList=L.getD j []:=by rw [← hx]
      have hxs:x.size≤n.size:=by rw [size_len,hxd];exact hLp j
      clear hx
      by_cases h0:0<x.size
      ·have he:=empty_f h0
       have hix:=index_last x h0
       have HN:=partOk_num x h0
       rw [hxd] at HN
       clear hLp hrow hxd
       by_cases p1:((x[0].toNat:Int) == 32)=true
       ·have hf:partOk (L.getD j [])=false:=by rw [← Bool.not_eq_true,HN];rw [beq_iff_eq] at p1;omega
        have HF:=Lib.hid (HNo.out (all_no hjl hf))
        clear hf HN
        go_wp2_with fail
        go_quiet (fail)
        go_wp2
        go_ret
        exact ⟨by rw [HF.out];rfl,below_drewN hBq _⟩
       ·rw [Bool.not_eq_true] at p1
        by_cases p2:((x[x.size - 1].toNat:Int) == 32)=true
        ·have hf:partOk (L.getD j [])=false:=by rw [← Bool.not_eq_true,HN];rw [beq_iff_eq] at p2;omega
         have HF:=Lib.hid (HNo.out (all_no hjl hf))
         clear hf HN
         go_wp2_with fail
         go_quiet (fail)
         go_wp2
         go_ret
         exact ⟨by rw [HF.out];rfl,below_drewN hBq _⟩
        ·rw [Bool.not_eq_true] at p2
         have ht:partOk (L.getD j [])=true:=by rw [HN];rw [beq_eq_false_iff_ne] at p1 p2;exact ⟨p1,p2⟩
         have HT:=Lib.hid ht
         clear ht HN
         go_wp2_with fail
         go_quiet (fail)
         go_wp2
         go_roundw
         case rel=>exact ⟨j+1,by omega,by go_num,below_drewN hQ _,fun i hi=>if e:i=j then by rw [e];exact HT.out else HOK.out i (by omega)⟩
         case measure=>simp [intOf];omega
      ·have he:=empty_t h0
       have hp:=partOk_nil x h0
       rw [hxd] at hp
       have HF:=Lib.hid (HNo.out (all_no hjl hp))
       clear hLp hrow hxd hp
       go_wp2_with fail
       go_quiet (fail)
       go_wp2
       go_ret
       exact ⟨by rw [HF.out];rfl,below_drewN hBq _⟩
     ·have hV:=HV.out (all_getD fun i hi=>HOK.out i (by omega))
      have HN:=Lib.hid (head_num n hn0)
      have hT:tailB sp n.data.toList=((n.data.toList.head? != some 58 && !lowHead n.data.toList) && (sp != 0 || (pre n.data.toList).isNone)):=rfl
      rw [hT,pre_prefR] at hV
      have HV2:=Lib.hid hV
      have c0q:=(hQ.cell (p:=⟨w.heap.size,0,none⟩) hw1).trans c0''
      clear hV hT hLp HOK HNo HV hrow
      by_cases hh:(n.data.toList.head? != some 58 && !lowHead n.data.toList)=true
      ·obtain ⟨q1,q2⟩:=HN.out.1 hh
       have hV:=HV2.out
       rw [hh,Bool.true_and] at hV
       have HV3:=Lib.hid hV
       clear hV hh HV2 HN
       have hP:=prefixed_ok n.data.toList wr hs
       change Calls _ _ #[.string n] _ _ at hP
       have hq1:((n[0].toNat:Int) == 58)=false:=by rw [beq_eq_false_iff_ne];exact q1
       have hlq:w.heap.size<wr.heap.size:=Nat.lt_of_lt_of_le hw1 hQ.size
       generalize (prefR n.data.toList).1=z at *
       generalize (prefR n.data.toList).2=z2 at *
       by_cases hsp:sp=0
       ·have f1:(sp != 0)=false:=by rw [hsp];rfl
        rw [f1] at HV3
        clear hsp q1
        go_wp2_with (go_at_call 72;refine hP.mono ?_)
        all_goals first
         | (exfalso;omega)
         | (rintro e W2 ⟨rfl,b2⟩
            have c2:=(b2.cell (p:=⟨w.heap.size,0,none⟩) hlq).trans c0q
            go_wp2
            go_ret
            have hz0:(false || decide (z=0))=((z:Int) == 0):=by by_cases h:z=0 <;> simp [h]
            exact ⟨by rw [HV3.out,hz0];rfl,hBq.trans (b2.mono (by omega))⟩)
       ·have f1:(sp != 0)=true:=by simp [hsp]
        rw [f1] at HV3
        clear hsp q1
        go_wp2_with (go_at_call 72;refine hP.mono ?_)
        all_goals first
         | (exfalso;omega)
         | (rintro e W2 ⟨rfl,b2⟩
            have c2:=(b2.cell (p:=⟨w.heap.size,0,none⟩) hlq).trans c0q
            go_wp2
            go_ret
            exact ⟨by rw [HV3.out];rfl,hBq.trans (b2.mono (by omega))⟩)
      ·have hV:valid sp n.data.toList=false:=by rw [HV2.out,Bool.not_eq_true _ |>.mp hh];rfl
       have hq:(n[0].toNat:Int)=58∨(97≤(n[0].toNat:Int)∧(n[0].toNat:Int)≤122):=by
        by_cases q1:(n[0].toNat:Int)=58
        ·exact .inl q1
        ·by_cases q2:97≤(n[0].toNat:Int)∧(n[0].toNat:Int)≤122
         ·exact .inr q2
         ·exact absurd (HN.out.2 ⟨q1,q2⟩) hh
       have HV3:=Lib.hid hV
       clear hV hh HV2 HN
       go_wp2
       all_goals first
        | (exfalso;simp only [beq_iff_eq,beq_eq_false_iff_ne,ne_eq] at *;omega)
        | (go_ret
           exact ⟨by rw [HV3.out];rfl,hBq⟩)
end Go.Proofs
namespace Go.Proofs
open Go.RowKit Go.Sp
theorem spaceName_held (n:Nat) (hn:n<6) (w0 w:World) (x y:Value) (h:w.cell? ⟨w0.heap.size,0,none⟩=some x∧w.cell? ⟨w0.heap.size,1,none⟩=some y∧Below w0.heap.size w0 w∧w0.heap.size<w.heap.size) :
 Calls Tryz.prog 47 #[.int .i64 n] w fun e w'=>e=.returned (.string ⟨(nms.getD n []).toArray⟩)∧w'.cell? ⟨w0.heap.size,0,none⟩=some x∧w'.cell? ⟨w0.heap.size,1,none⟩=some y∧Below w0.heap.size w0 w'∧w0.heap.size<w'.heap.size :=
 (spaceName_ok n hn w).mono fun _ _ he=>⟨he.1,(he.2.cell (p:=⟨w0.heap.size,0,none⟩) h.2.2.2).trans h.1,(he.2.cell (p:=⟨w0.heap.size,1,none⟩) h.2.2.2).trans h.2.1,h.2.2.1.trans (he.2.mono h.2.2.1.size),Nat.lt_of_lt_of_le h.2.2.2 he.2.size⟩
set_option maxRecDepth 100000 in
set_option maxHeartbeats 4000000 in
theorem tformatR_ok (sp:Int) (n:ByteArray) (w:World) (hs:n.size<4294960000):Calls Tryz.prog 24 #[.agg #[.int .i64 sp,.string n]] w (RetB (.string ⟨(fmt sp n.data.toList).toArray⟩) w):=by
 have hb0:Below w.heap.size w (w.alloc (.cells #[.int .i64 sp,.string n] 30)):=(Below.refl _ w).alloc (Nat.le_refl _) _
 have hV:=validR_ok sp n (w.alloc (.cells #[.int .i64 sp,.string n] 30)) hs
 have hz:(w.alloc (.cells #[.int .i64 sp,.string n] 30)).heap.size=w.heap.size+1:=by simp
 cases hv:valid sp n.data.toList with
 | false =>
  rw [hv] at hV
  have hf:fmt sp n.data.toList=[]:=by unfold fmt;rw [hv];rfl
  have HF:=Lib.hid hf;clear hf hv
  have HZ:=Lib.hid hz;clear hz
  go_enter Tryz.func24,Tryz.ntmps24
  go_wp2_with (go_at_call 46;refine hV.mono ?_)
  rintro e W1 ⟨rfl,b1⟩
  go_wp2
  go_ret
  exact ⟨by rw [HF.out];rfl,hb0.trans (b1.mono (by rw [HZ.out];omega))⟩
 | true =>
  rw [hv] at hV
  by_cases hsp:sp=0
  ·have f1:(sp == 0)=true:=by rw [hsp];rfl
   have hf:fmt sp n.data.toList=n.data.toList:=by unfold fmt;rw [hv,if_pos rfl,if_pos hsp]
   have HF:=Lib.hid hf;clear hf hv hsp
   have HZ:=Lib.hid hz;clear hz
   go_enter Tryz.func24,Tryz.ntmps24
   go_wp2_with (go_at_call 46;refine hV.mono ?_)
   rintro e W1 ⟨rfl,b1⟩
   have c0:W1.cell? ⟨w.heap.size,0,none⟩=some (.int .i64 sp):=(b1.cell (p:=⟨w.heap.size,0,none⟩) (by rw [HZ.out];simp)).trans (by simp [World.cell?,World.alloc,-World.alloc_eq])
   have c1:W1.cell? ⟨w.heap.size,1,none⟩=some (.string n):=(b1.cell (p:=⟨w.heap.size,1,none⟩) (by rw [HZ.out];simp)).trans (by simp [World.cell?,World.alloc,-World.alloc_eq])
   go_wp2
   go_ret
   exact ⟨by rw [HF.out];rfl,hb0.trans (b1.mono (by rw [HZ.out];omega))⟩
  ·have f1:(sp == 0)=false:=by simp [hsp]
   have hr:=valid_range hv
   have hf:fmt sp n.data.toList=nms.getD sp.toNat [] ++ 58 :: n.data.toList:=by unfold fmt;rw [hv,if_pos rfl,if_neg hsp]
   obtain ⟨k,rfl⟩:∃ k:Nat,sp=k:=⟨sp.toNat,by omega⟩
   have hk:k<6:=by omega
   rw [Int.toNat_natCast] at hf
   have hnl:=nms_len k
   have hvl:=(valid_parts hv).2.2.2.1
   rw [← size_len] at hvl
   have HF:=Lib.hid hf;clear hf hv
   have HZ:=Lib.hid hz;clear hz
   clear hsp hr
   have hH:=spaceName_held k hk w
   go_enter Tryz.func24,Tryz.ntmps24
   go_wp2_with (go_at_call 46;refine hV.mono ?_)
   rintro e W1 ⟨rfl,b1⟩
   have c0:W1.cell? ⟨w.heap.size,0,none⟩=some (.int .i64 k):=(b1.cell (p:=⟨w.heap.size,0,none⟩) (by rw [HZ.out];simp)).trans (by simp [World.cell?,World.alloc,-World.alloc_eq])
   have c1:W1.cell? ⟨w.heap.size,1,none⟩=some (.string n):=(b1.cell (p:=⟨w.heap.size,1,none⟩) (by rw [HZ.out];simp)).trans (by simp [World.cell?,World.alloc,-World.alloc_eq])
   have hB:Below w.heap.size w W1:=hb0.trans (b1.mono (by rw [HZ.out];omega))
   have hlt:w.heap.size<W1.heap.size:=by have:=b1.size;rw [HZ.out] at this;omega
   clear hV hb0 b1
   have hns:(⟨(nms.getD k []).toArray⟩:ByteArray).size≤8:=hnl
   have hcat:(⟨(nms.getD k []).toArray⟩:ByteArray) ++ ⟨#[58]⟩ ++ n=⟨(nms.getD k [] ++ 58 :: n.data.toList).toArray⟩:=bytes_ext (by simp)
   have ha1:∀ W,(Op.stringOp .add (⟨(nms.getD k []).toArray⟩:ByteArray) ⟨#[58]⟩).run Tryz.prog W=.ok (.string ((⟨(nms.getD k []).toArray⟩:ByteArray) ++ ⟨#[58]⟩)) W:=fun W=>run_string_add_sum W _ _ (by rw [show (⟨#[58]⟩:ByteArray).size=1 from rfl];omega)
   have ha2:∀ W,(Op.stringOp .add ((⟨(nms.getD k []).toArray⟩:ByteArray) ++ ⟨#[58]⟩) n).run Tryz.prog W=.ok (.string ((⟨(nms.getD k []).toArray⟩:ByteArray) ++ ⟨#[58]⟩ ++ n)) W:=fun W=>run_string_add_sum W _ _ (by rw [ByteArray.size_append,show (⟨#[58]⟩:ByteArray).size=1 from rfl];omega)
   have HCT:=Lib.hid hcat
   clear hnl hcat
   generalize (⟨(nms.getD k []).toArray⟩:ByteArray)=nm at *
   go_wp2_with fail
   go_region_held3 (fun w'=>w'.cell? ⟨w.heap.size,0,none⟩=some (.int .i64 k)∧w'.cell? ⟨w.heap.size,1,none⟩=some (.string n)∧Below w.heap.size w w'∧w.heap.size<w'.heap.size) (first | exact ⟨c0,c1,hB.drew,hlt⟩ | assumption | go_keep)
    (first | (go_at_call 47;refine (hH _ _ _ (by assumption)).mono ?_;rintro e w' ⟨rfl,k⟩))
   go_wp2
   go_ret
   exact ⟨by rw [HF.out,← HCT.out];rfl,k.2.2.1⟩
end Go.Proofs
