/- A part of the proof: Rk -/
import Derived.Test.YtimfnccfnefajaaGreatDoorVRb
set_option linter.unusedSimpArgs false
set_option linter.unusedVariables false
namespace Go.Proofs
open Go.RowKit Go.Sp
theorem prefR_le (l:Bs) (h:0<(prefR l).1):(prefR l).2+1≤l.length:=by
 unfold prefR at h ⊢
 split
 ·rename_i h0
  rw [if_pos h0] at h
  cases h
 ·rename_i h0
  rw [if_neg h0] at h
  rw [Lib.index_one] at *
  obtain ⟨j,hj⟩:∃ j:Nat,Lib.indexByte l 58=j:=⟨(Lib.indexByte l 58).toNat,by omega⟩
  have hlt:j<l.length:=by
   have:=(Lib.indexByte_some hj).1
   exact (List.getElem?_eq_some_iff.1 this).1
  split
  ·rw [hj];show (j:Int).toNat+1≤_;rw [Int.toNat_natCast];exact hlt
  ·rename_i hs
   rw [hs] at h
   cases h
theorem cutR_len (l:Bs) (k:Nat):(cutR l k).length≤l.length:=by
 unfold cutR
 split
 ·rw [List.length_drop,List.length_drop];omega
 ·rw [List.length_drop];omega
theorem blk_len:∀ (r acc:Bs),(blk acc r).length≤acc.length+r.length
 | [],acc=>Nat.le_refl _
 | c :: r,acc=>by
  rw [blk]
  split
  ·have:=blk_len r acc
   rw [List.length_cons];omega
  ·have:=blk_len r (acc ++ [und c])
   rw [List.length_append,List.length_singleton] at this
   rw [List.length_cons];omega
theorem blanks_len (s:Bs):(blanks s).length≤s.length:=by
 have h:=blk_len s []
 unfold blanks chop
 split
 ·rw [List.length_dropLast];simp only [List.length_nil] at h;omega
 ·simpa using h
theorem colonR_len (s:Bs):(colonR s).length≤s.length:=by
 unfold colonR
 split
 ·exact cutR_len _ _
 ·exact Nat.le_refl _
theorem restR_len (s:Bs):(restR s).2.length≤s.length:=by
 unfold restR
 simp only
 split
 ·exact cutR_len _ _
 ·exact Nat.le_refl _
def prevB (l:Bs) (k:Nat):Option UInt8:=if k=0 then none else l[k - 1]?
theorem prevB_succ (x:ByteArray) (k:Nat) (h:k<x.size):prevB x.data.toList (k+1)=some x[k]:=by
 unfold prevB
 rw [if_neg (Nat.succ_ne_zero k)]
 exact get_at x k h
theorem nameGo_push {x o:ByteArray} {k:Nat} {p:Option UInt8} {L:Bs} (hk:k<x.size) (h:L=o.data.toList ++ nameGo p (x.data.toList.drop k)) (hc:¬ (x[k]=32∧(p=some 47∨(x.data.toList.drop (k+1)).head? = some 47))):L=(o ++ ⟨#[x[k]]⟩).data.toList ++ nameGo (prevB x.data.toList (k+1)) (x.data.toList.drop (k+1)):=by
 rw [h,drop_one x k hk,nameGo,if_neg hc,prevB_succ x k hk,push_list]
 simp
theorem nameGo_skip {x o:ByteArray} {k:Nat} {p:Option UInt8} {L:Bs} (hk:k<x.size) (h:L=o.data.toList ++ nameGo p (x.data.toList.drop k)) (hc:x[k]=32∧(p=some 47∨(x.data.toList.drop (k+1)).head? = some 47)):L=o.data.toList ++ nameGo (prevB x.data.toList (k+1)) (x.data.toList.drop (k+1)):=by
 rw [h,drop_one x k hk,nameGo,if_pos hc,prevB_succ x k hk]
theorem prevB_at {x:ByteArray} {k:Nat} (h0:0<k) (hk:k - 1<x.size):prevB x.data.toList k=some x[k - 1]:=by
 unfold prevB
 rw [if_neg (by omega)]
 exact get_at x (k - 1) hk
theorem next_at {x:ByteArray} {k:Nat} (h:k+1<x.size):(x.data.toList.drop (k+1)).head? = some x[k+1]:=by
 rw [List.head?_drop];exact get_at x (k+1) h
theorem next_none {x:ByteArray} {k:Nat} (h:¬ k+1<x.size):(x.data.toList.drop (k+1)).head? = none:=by
 rw [List.head?_drop,List.getElem?_eq_none (by rw [← size_len];omega)]
theorem lowHead_num (o:ByteArray) (h:0<o.size):lowHead o.data.toList=(decide (97≤(o[0].toNat:Int)) && decide ((o[0].toNat:Int)≤122)):=by
 have hh:o.data.toList.head? = some o[0]:=by rw [List.head?_eq_getElem?];exact get_at o 0 h
 unfold lowHead
 rw [hh]
 have:=le_num o[0]
 rw [Bool.eq_iff_iff]
 simp only [Option.any_some,Bool.and_eq_true,decide_eq_true_eq]
 exact this
theorem upHead_f {l:Bs} (h:false=lowHead l):upHead l=l:=by
 cases l with
 | nil=>rfl
 | cons c r =>
  refine if_neg fun hc=>?_
  have:lowHead (c :: r)=true:=by
   unfold lowHead
   simp [hc.1,hc.2]
  rw [this] at h
  cases h
theorem low_pos {o:ByteArray} (h:true=lowHead o.data.toList):0<o.size:=by
 rcases Nat.lt_or_ge 0 o.size with h0 | h0
 ·exact h0
 ·rw [empty_nil (by omega)] at h
  cases h
set_option maxRecDepth 100000 in
set_option maxHeartbeats 8000000 in
theorem tparseR_ok (s:ByteArray) (w:World) (hs:s.size<4294960000):Calls Tryz.prog 270 #[.string s] w (RetB (parseV (parseR s.data.toList)) w):=by
 have hp0:P1 w (w.alloc (.cells #[.int .i64 0,.string ⟨#[]⟩] 30)):=⟨(Below.refl _ w).alloc (Nat.le_refl _) _,TBlk.new w⟩
 have HBk:=blanks_ok s (w.alloc (.cells #[.int .i64 0,.string ⟨#[]⟩] 30)) hs
 have hbl:=blanks_len s.data.toList
 rw [← size_len] at hbl
 have hpe:parseR s.data.toList=ends (restR (colonR (blanks s.data.toList))).1 (upHead (nameGo none (restR (colonR (blanks s.data.toList))).2)):=rfl
 have HP:=Lib.hid hpe;clear hpe
 generalize blanks s.data.toList=b0 at *
 go_enter Tryz.func270,Tryz.ntmps270
 go_upto_region 2 with (go_at_call 385;refine HBk.mono ?_;rintro e W1 ⟨rfl,b1⟩)
 have hp1:=hp0.step b1
 clear HBk b1 hp0
 obtain ⟨bb,hbb⟩:∃ bb:Bool,bb=(b0.head? == some 58):=⟨_,rfl⟩
 have HBB:=Lib.hid hbb
 clear hbb
 go_cut [18] (fun v W=>v=.bool bb∧P1 w W)
 case first =>
  cases b0 with
  | nil =>
   have hb:=HBB.out
   obtain rfl:bb=false:=hb
   go_wp2
   go_meet
   exact ⟨rfl,hp1⟩
  | cons c r =>
   have hb:bb=((((⟨(c :: r).toArray⟩:ByteArray)[0]'(Nat.zero_lt_succ _)).toNat:Int) == 58):=by
    rw [HBB.out]
    show ((c :: r).head? == some 58)=((c.toNat:Int) == 58)
    by_cases h:c=58
    ·rw [h];rfl
    ·have h1:((c.toNat:Int) == 58)=false:=beq_no h
     rw [h1]
     simpa using h
   have HB:=Lib.hid hb
   clear hb
   go_wp2
   go_meet
   exact ⟨by rw [HB.out],hp1⟩
 case rest =>
  obtain ⟨rfl,hp2⟩:=hcut
  clear hp1
  go_upto_if 18 with fail
  have hcl:=colonR_len b0
  go_cut [0] (fun v W=>v=.string ⟨(colonR b0).toArray⟩∧P1 w W)
  case first =>
   cases bb with
   | false =>
    have hc:colonR b0=b0:=by
     have:=HBB.out
     unfold colonR
     rw [if_neg]
     intro h
     rw [h] at this
     cases this
    have HC:=Lib.hid hc
    clear hc
    go_wp2
    go_meet
    exact ⟨by rw [HC.out],hp2⟩
   | true =>
    have hh:b0.head? = some 58:=beq_iff_eq.1 HBB.out.symm
    have hc:colonR b0=cutR b0 1:=by unfold colonR;rw [if_pos hh]
    have hl:1≤b0.length:=by
     cases b0 with
     | nil=>cases hh
     | cons _ _=>exact Nat.succ_le_succ (Nat.zero_le _)
    have hK:=fun W=>cut_ok b0 1 hl W
    change ∀ W,Calls _ _ #[_,.int .i64 1] _ _ at hK
    have HC:=Lib.hid hc
    clear hc hh hl
    go_wp2_with (go_at_call 386;refine (hK _).mono ?_)
    rintro e W4 ⟨rfl,b4⟩
    go_wp2
    go_meet
    exact ⟨by rw [HC.out],hp2.step b4⟩
  case rest =>
   obtain ⟨rfl,hp3⟩:=hcut
   clear hp2 HBB
   generalize colonR b0=c0 at *
   have hPx:=fun W=>prefixed_ok c0 W (by omega)
   have hrl:=restR_len c0
   have hre:restR c0=((prefR c0).1,if 0<(prefR c0).1 then cutR c0 ((prefR c0).2+1) else c0):=rfl
   have hle:=prefR_le c0
   generalize (prefR c0).1=pn at *
   generalize (prefR c0).2=pa at *
   have hr1:(restR c0).1=pn:=by rw [hre]
   have hr2:(restR c0).2=if 0<pn then cutR c0 (pa+1) else c0:=by rw [hre]
   clear hre
   rw [hr1] at HP
   have HR2:=Lib.hid hr2
   clear hr1 hr2
   generalize (restR c0).2=x0 at *
   go_upto_if 27 with (go_at_call 72;refine (hPx _).mono ?_;rintro e W5 ⟨rfl,b5⟩)
   have hp4:=hp3.step b5
   clear hPx b5 hp3
   go_cut [0] (fun v W=>v=.string ⟨x0.toArray⟩∧P1 w W)
   case first =>
    by_cases hn:0<pn
    ·have hx:x0=cutR c0 (pa+1):=by rw [HR2.out,if_pos hn]
     have hK:=fun W=>cut_ok c0 (pa+1) (hle hn) W
     have hpl:=hle hn
     rw [Int.natCast_add] at hK
     change ∀ W,Calls _ _ #[_,.int .i64 ((pa:Int)+1)] _ _ at hK
     have HX:=Lib.hid hx
     clear hx hle HR2
     go_wp2_with (go_at_call 386;refine (hK _).mono ?_)
     rintro e W4 ⟨rfl,b4⟩
     go_wp2
     go_meet
     exact ⟨by rw [HX.out],hp4.step b4⟩
    ·have hx:x0=c0:=by rw [HR2.out,if_neg hn]
     have HX:=Lib.hid hx
     clear hx hle HR2
     go_wp2
     go_meet
     exact ⟨by rw [HX.out],hp4⟩
   case rest =>
    obtain ⟨rfl,hp5⟩:=hcut
    clear hp4 HR2 hle
    generalize hx:(⟨x0.toArray⟩:ByteArray)=x at *
    have hxd:x0=x.data.toList:=by rw [← hx]
    subst hxd
    clear hx
    have hxs:x.size≤s.size:=by rw [size_len];omega
    clear hrl hcl hbl
    have hsl:=slice_one x
    go_wp2
    go_loopw [6,7] (fun v i wr=>∃ (k:Nat) (o:ByteArray),k≤x.size∧v=.string o∧i=.int .i64 k∧P1 w wr∧o.size≤k∧nameGo none x.data.toList=o.data.toList ++ nameGo (prevB x.data.toList k) (x.data.toList.drop k)) (fun _ i _=>x.size - (intOf i).toNat)
    case atStart=>exact ⟨0,⟨#[]⟩,Nat.zero_le _,rfl,rfl,hp5,Nat.le_refl _,rfl⟩
    case round =>
     obtain ⟨k,o,hk,rfl,rfl,hW,ho,hI⟩:=hrel
     clear hp5
     by_cases hlt:k<x.size
     ·have hx1:=hsl k hlt
      clear hsl
      by_cases h32:x[k]=32
      ·have f1:((x[k].toNat:Int) == 32)=true:=by rw [h32];rfl
       by_cases hp:0<k∧prevB x.data.toList k=some 47
       ·obtain ⟨h0,hp⟩:=hp
        have hk1:k - 1<x.size:=by omega
        have HI:=Lib.hid (nameGo_skip hlt hI ⟨h32,.inl hp⟩)
        rw [prevB_at h0 hk1] at hp
        have f2:((x[k - 1].toNat:Int) == 47)=true:=by rw [Option.some.inj hp];rfl
        clear hI h32 hp
        go_wp2
        go_roundw
        case rel=>exact ⟨k+1,o,by omega,rfl,by go_num,hW,by omega,HI.out⟩
        case measure=>simp [intOf];omega
       ·by_cases hn:k+1<x.size
        ·by_cases hnx:x[k+1]=47
         ·have HI:=Lib.hid (nameGo_skip hlt hI ⟨h32,.inr (by rw [next_at hn,hnx])⟩)
          have f3:((x[k+1].toNat:Int) == 47)=true:=by rw [hnx];rfl
          by_cases h0:0<k
          ·have hk1:k - 1<x.size:=by omega
           have hq:x[k - 1]≠47:=fun e=>hp ⟨h0,by rw [prevB_at h0 hk1,e]⟩
           have f2:((x[k - 1].toNat:Int) == 47)=false:=beq_no hq
           clear hI h32 hp hnx hq
           go_wp2
           go_roundw
           case rel=>exact ⟨k+1,o,by omega,rfl,by go_num,hW,by omega,HI.out⟩
           case measure=>simp [intOf];omega
          ·clear hI h32 hp hnx
           go_wp2
           go_roundw
           case rel=>exact ⟨k+1,o,by omega,rfl,by go_num,hW,by omega,HI.out⟩
           case measure=>simp [intOf];omega
         ·have f3:((x[k+1].toNat:Int) == 47)=false:=beq_no hnx
          by_cases h0:0<k
          ·have hk1:k - 1<x.size:=by omega
           have hq:x[k - 1]≠47:=fun e=>hp ⟨h0,by rw [prevB_at h0 hk1,e]⟩
           have f2:((x[k - 1].toNat:Int) == 47)=false:=beq_no hq
           have HI:=Lib.hid (nameGo_push hlt hI (by
            rintro ⟨_,h | h⟩
            ·exact hp ⟨h0,h⟩
            ·rw [next_at hn] at h;exact hnx (Option.some.inj h)))
           clear hI h32 hp hnx hq
           go_wp2
           go_roundw
           case rel=>exact ⟨k+1,o ++ ⟨#[x[k]]⟩,by omega,rfl,by go_num,hW,by rw [ByteArray.size_append];show o.size+1≤_;omega,HI.out⟩
           case measure=>simp [intOf];omega
          ·have HI:=Lib.hid (nameGo_push hlt hI (by
            rintro ⟨_,h | h⟩
            ·unfold prevB at h
             rw [if_pos (by omega)] at h
             cases h
            ·rw [next_at hn] at h;exact hnx (Option.some.inj h)))
           clear hI h32 hp hnx
           go_wp2
           go_roundw
           case rel=>exact ⟨k+1,o ++ ⟨#[x[k]]⟩,by omega,rfl,by go_num,hW,by rw [ByteArray.size_append];show o.size+1≤_;omega,HI.out⟩
           case measure=>simp [intOf];omega
        ·have HI:=Lib.hid (nameGo_push hlt hI (by
                    rintro ⟨_,h | h⟩
                    ·by_cases h0:0<k
                     ·exact hp ⟨h0,h⟩
                     ·unfold prevB at h
                      rw [if_pos (by omega)] at h
                      cases h
                    ·rw [next_none hn] at h;cases h))
         by_cases h0:0<k
         ·have hk1:k - 1<x.size:=by omega
          have hq:x[k - 1]≠47:=fun e=>hp ⟨h0,by rw [prevB_at h0 hk1,e]⟩
          have f2:((x[k - 1].toNat:Int) == 47)=false:=beq_no hq
          clear hI h32 hp hq
          go_wp2
          go_roundw
          case rel=>exact ⟨k+1,o ++ ⟨#[x[k]]⟩,by omega,rfl,by go_num,hW,by rw [ByteArray.size_append];show o.size+1≤_;omega,HI.out⟩
          case measure=>simp [intOf];omega
         ·clear hI h32 hp
          go_wp2
          go_roundw
          case rel=>exact ⟨k+1,o ++ ⟨#[x[k]]⟩,by omega,rfl,by go_num,hW,by rw [ByteArray.size_append];show o.size+1≤_;omega,HI.out⟩
          case measure=>simp [intOf];omega
      ·have f1:((x[k].toNat:Int) == 32)=false:=beq_no h32
       have HI:=Lib.hid (nameGo_push hlt hI (fun h=>h32 h.1))
       clear hI h32
       go_wp2
       go_roundw
       case rel=>exact ⟨k+1,o ++ ⟨#[x[k]]⟩,by omega,rfl,by go_num,hW,by rw [ByteArray.size_append];show o.size+1≤_;omega,HI.out⟩
       case measure=>simp [intOf];omega
     ·rw [List.drop_of_length_le (by rw [← size_len];omega)] at hI
      have hI:nameGo none x.data.toList=o.data.toList:=by rw [hI];exact List.append_nil _
      have hHP:=HP.out
      rw [hI] at hHP
      clear HP hI hsl
      have HP:=Lib.hid hHP
      clear hHP
      obtain ⟨lb,hlb⟩:∃ lb:Bool,lb=lowHead o.data.toList:=⟨_,rfl⟩
      have HLB:=Lib.hid hlb
      clear hlb
      go_upto_region 13 with fail
      go_cut [86] (fun v W=>v=.bool lb∧P1 w W)
      case first =>
       by_cases h0:0<o.size
       ·have hl:=lowHead_num o h0
        by_cases h1:97≤(o[0].toNat:Int)
        ·by_cases h2:(o[0].toNat:Int)≤122
         ·have HQ:=Lib.hid (show lb=true by rw [HLB.out,hl,decide_eq_true h1,decide_eq_true h2];rfl)
          clear hl
          go_wp2
          go_meet
          exact ⟨by rw [HQ.out],hW⟩
         ·have HQ:=Lib.hid (show lb=false by rw [HLB.out,hl,decide_eq_true h1,decide_eq_false h2];rfl)
          clear hl
          go_wp2
          go_meet
          exact ⟨by rw [HQ.out],hW⟩
        ·have HQ:=Lib.hid (show lb=false by rw [HLB.out,hl,decide_eq_false h1];rfl)
         clear hl
         go_wp2
         go_meet
         exact ⟨by rw [HQ.out],hW⟩
       ·have HQ:=Lib.hid (show lb=false by rw [HLB.out,empty_nil h0];rfl)
        go_wp2
        go_meet
        exact ⟨by rw [HQ.out],hW⟩
      case rest =>
       obtain ⟨rfl,hp6⟩:=hcut
       clear hW
       go_upto_if 86 with fail
       go_cut [6] (fun v W=>∃ y:ByteArray,v=.string y∧y.data.toList=upHead o.data.toList∧y.size≤o.size∧P1 w W)
       case first =>
        cases lb with
        | false =>
         have hu:=upHead_f HLB.out
         have HU:=Lib.hid hu
         clear hu
         go_wp2
         go_meet
         exact ⟨o,rfl,HU.out.symm,Nat.le_refl _,hp6⟩
        | true =>
         have h0:=low_pos HLB.out
         have hlow:97≤(o[0].toNat:Int)∧(o[0].toNat:Int)≤122:=by
                    have:=lowHead_num o h0
                    rw [← HLB.out] at this
                    have:=this.symm
                    rw [Bool.and_eq_true,decide_eq_true_eq,decide_eq_true_eq] at this
                    exact this
         have hu:=upHead_yes h0 hlow
         have HU:=Lib.hid hu
         clear hu hI HP
         obtain ⟨h97,h122⟩:=hlow
         have hsub:((o[0] - 32).toNat:Int)=(o[0].toNat:Int) - 32:=by
                    rw [UInt8.toNat_sub_of_le _ _ (UInt8.le_iff_toNat_le.2 (by show 32≤o[0].toNat;omega))]
                    show ((o[0].toNat - 32:Nat):Int)=_
                    omega
         have hback:=run_convert_bytes_back (P:=Tryz.prog) (wc.alloc (.cells #[.int .u8 ((o[0].toNat:Int) - 32)] 5)).drew 91 9 5 ⟨wc.heap.size,0,none⟩ 1 [o[0] - 32] Tryz.underlying91 Tryz.underlying5 Tryz.underlying9 (fun j hj=>by
                    obtain rfl:j=0:=by simp at hj;omega
                    rw [show ([o[0] - 32]:Bs)[0]=o[0] - 32 from rfl,hsub]
                    simp [World.cell?,World.alloc,World.drew,-World.alloc_eq,-World.drew_eq,Addr.add])
         have hb2:(convert 91 9 (Value.slice (some ⟨wc.heap.size,0,none⟩) 1 1)).run Tryz.prog (wc.alloc (.cells #[.int .u8 ((o[0].toNat:Int) - 32)] 5)).drew=.ok (.string ⟨#[o[0] - 32]⟩) (wc.alloc (.cells #[.int .u8 ((o[0].toNat:Int) - 32)] 5)).drew:=hback
         have hsf:∀ W,(Instr.slice 9 (.string o) (some (.int .i64 1)) none none).run Tryz.prog W=.ok (.string ⟨(o.data.toList.drop 1).toArray⟩) W:=slice_from o.data.toList 1 h0
         have hcat:(⟨#[o[0] - 32]⟩:ByteArray) ++ ⟨(o.data.toList.drop 1).toArray⟩=⟨((o[0] - 32) :: o.data.toList.drop 1).toArray⟩:=cat_eq [o[0] - 32] (o.data.toList.drop 1)
         have hdl:(⟨(o.data.toList.drop 1).toArray⟩:ByteArray).size≤o.size:=by rw [lsize,List.length_drop,← size_len];omega
         have hdl2:(⟨((o[0] - 32) :: o.data.toList.drop 1).toArray⟩:ByteArray).size≤o.size:=by rw [lsize,List.length_cons,List.length_drop,← size_len];omega
         have HCT:=Lib.hid hcat
         clear hsub hback hcat
         have hp8:P1 w (wc.alloc (.cells #[.int .u8 ((o[0].toNat:Int) - 32)] 5)).drew:=hp6.step ((Below.refl _ wc).alloc (Nat.le_refl _) _).drew
         go_wp2_with fail
         generalize (⟨(o.data.toList.drop 1).toArray⟩:ByteArray)=od at *
         go_region
         go_wp2
         go_meet
         exact ⟨_,rfl,by rw [HCT.out,HU.out],by rw [HCT.out];exact hdl2,hp8⟩
       case rest =>
        obtain ⟨y,rfl,hy,hyo,hp7⟩:=hcut
        clear hp6 HLB hI
        have hHP:=HP.out
        rw [← hy] at hHP
        clear HP hy
        have HP:=Lib.hid hHP
        clear hHP
        have d0:=hp7.2.c0
        have d1:=hp7.2.c1
        have g0:=hp7.2.f0
        have g1:=hp7.2.f1
        by_cases hl:100<y.size
        ·have hres:parseR s.data.toList=(3,0,[]):=by rw [HP.out];unfold ends;rw [if_pos (by rw [← size_len];exact hl)]
         have HR:=Lib.hid hres;clear hres HP
         go_wp2
         have hF:=(hp7.2.set0 0).set1 []
         have hFB:=(hp7.1.setCell (p:=⟨w.heap.size,0,none⟩) (Nat.le_refl _) (.int .i64 0)).setCell (p:=⟨w.heap.size,1,none⟩) (Nat.le_refl _) (.string ⟨#[]⟩)
         generalize (wc.setCell ⟨w.heap.size,0,none⟩ (.int .i64 0)).setCell ⟨w.heap.size,1,none⟩ (.string ⟨#[]⟩)=WF at *
         have e0:=hF.c0
         have e1:=hF.c1
         exact bodyPost_ret (v:=.tuple #[.agg #[.int .i64 0,.string ⟨#[]⟩],.int .i64 3]) (by simp [results,Tryz.results270,go_sem,e0,e1]) rfl ⟨by rw [HR.out];rfl,hFB⟩
        ·have hp8:P1 w (wc.alloc (.cells #[.int .i64 pn,.string y] 30)):=hp7.step ((Below.refl _ wc).alloc (Nat.le_refl _) _)
         have hVL:=fun W=>validR_ok pn y W (by omega)
         have k0:(wc.alloc (.cells #[.int .i64 pn,.string y] 30)).cell? ⟨wc.heap.size,0,none⟩=some (.int .i64 pn):=by simp [World.cell?,World.alloc,-World.alloc_eq]
         have k1:(wc.alloc (.cells #[.int .i64 pn,.string y] 30)).cell? ⟨wc.heap.size,1,none⟩=some (.string y):=by simp [World.cell?,World.alloc,-World.alloc_eq]
         have hkl:wc.heap.size<(wc.alloc (.cells #[.int .i64 pn,.string y] 30)).heap.size:=by simp
         clear d0 d1 g0 g1
         cases hv:valid pn y.data.toList with
         | true =>
                    have hres:parseR s.data.toList=(0,(pn:Int),y.data.toList):=by rw [HP.out];unfold ends;rw [if_neg (by rw [← size_len];exact hl),if_pos hv]
                    rw [hv] at hVL
                    have HR:=Lib.hid hres;clear hres HP hv hp7
                    go_wp2_with (go_at_call 46;refine (hVL _).mono ?_)
                    generalize wc.alloc _=W8 at *
                    rintro e W9 ⟨rfl,b9⟩
                    have hp9:=hp8.step b9
                    have k0':=(b9.cell (p:=⟨wc.heap.size,0,none⟩) hkl).trans k0
                    have k1':=(b9.cell (p:=⟨wc.heap.size,1,none⟩) hkl).trans k1
                    have d0:=hp9.2.c0
                    have d1:=hp9.2.c1
                    have g0:=hp9.2.f0
                    have g1:=hp9.2.f1
                    clear k0 k1 hp8 b9
                    go_wp2
                    have hF:=(hp9.2.set0 pn).set1 y.data.toList
                    rw [bytes_back] at hF
                    have hFB:=(hp9.1.setCell (p:=⟨w.heap.size,0,none⟩) (Nat.le_refl _) (.int .i64 pn)).setCell (p:=⟨w.heap.size,1,none⟩) (Nat.le_refl _) (.string y)
                    generalize (W9.setCell ⟨w.heap.size,0,none⟩ (.int .i64 pn)).setCell ⟨w.heap.size,1,none⟩ (.string y)=WF at *
                    have e0:=hF.c0
                    have e1:=hF.c1
                    rw [bytes_back] at e1
                    exact bodyPost_ret (v:=.tuple #[.agg #[.int .i64 pn,.string y],.int .i64 0]) (by simp [results,Tryz.results270,go_sem,e0,e1]) rfl ⟨by rw [HR.out];rfl,hFB⟩
         | false =>
                    have hres:parseR s.data.toList=(1,0,[]):=by rw [HP.out];unfold ends;rw [if_neg (by rw [← size_len];exact hl),if_neg (by rw [hv];exact Bool.false_ne_true)]
                    rw [hv] at hVL
                    have HR:=Lib.hid hres;clear hres HP hv hp7
                    go_wp2_with (go_at_call 46;refine (hVL _).mono ?_)
                    generalize wc.alloc _=W8 at *
                    rintro e W9 ⟨rfl,b9⟩
                    have hp9:=hp8.step b9
                    have d0:=hp9.2.c0
                    have d1:=hp9.2.c1
                    have g0:=hp9.2.f0
                    have g1:=hp9.2.f1
                    clear k0 k1 hp8 b9
                    go_wp2
                    have hF:=(hp9.2.set0 0).set1 []
                    have hFB:=(hp9.1.setCell (p:=⟨w.heap.size,0,none⟩) (Nat.le_refl _) (.int .i64 0)).setCell (p:=⟨w.heap.size,1,none⟩) (Nat.le_refl _) (.string ⟨#[]⟩)
                    generalize (W9.setCell ⟨w.heap.size,0,none⟩ (.int .i64 0)).setCell ⟨w.heap.size,1,none⟩ (.string ⟨#[]⟩)=WF at *
                    have e0:=hF.c0
                    have e1:=hF.c1
                    exact bodyPost_ret (v:=.tuple #[.agg #[.int .i64 0,.string ⟨#[]⟩],.int .i64 1]) (by simp [results,Tryz.results270,go_sem,e0,e1]) rfl ⟨by rw [HR.out];rfl,hFB⟩
end Go.Proofs
