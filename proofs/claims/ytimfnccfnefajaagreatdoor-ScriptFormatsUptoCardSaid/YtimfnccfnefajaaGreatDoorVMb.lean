/- A part of the proof: Mb -/
import Derived.Test.YtimfnccfnefajaaGreatDoorVMa
import Derived.Test.YtimfnccfnefajaaGreatDoorVWl
set_option linter.unusedSimpArgs false
set_option linter.unusedVariables false
namespace Go.Proofs
open Go.RowKit Go.Sp
def AwK (w:World):Prop:=∀ W,Below w.heap.size w W→Calls Tryz.prog 9 #[] W (RetB (.bool true) W)
theorem roundB (v:Int) (n:Nat) (w:World) (hn:0<n) (hn2:n≤2147483648):Calls Tryz.prog 11 #[.int .i64 v,.int .i64 n] w (RetB (.int .i64 (rnd v n)) w):=retB_same (round_k v n w hn hn2)
theorem wrong_at0 (W:World):(Instr.index 53 (.agg #[.string ⟨#[102,108,117,115,104,32,110,111,119]⟩,.string ⟨#[116,105,99,107,32,48,53]⟩,.string ⟨#[116,105,99,107,32,45]⟩,.string ⟨#[114,101,97,100,32,97,110,110,32,97,32,48]⟩,.string ⟨#[114,101,97,100,32,97,110,110,32,65]⟩,.string ⟨#[101,100,105,116,32,97,110,110,32,65,32,48,32,120,95,121,126,32,45]⟩,.string ⟨#[119,111,114,107,32,49,50,51,52,53,54,55,56,57,48]⟩,.string ⟨#[105,109,112,111,114,116,32,97,110,110,32,65]⟩,.string ⟨#[32,102,108,117,115,104]⟩]) (.int .i64 0)).run Tryz.prog W=.ok (.string ⟨(wrongs.getD 0 []).toArray⟩) W:=by kernel_rfl
theorem wrong_at1 (W:World):(Instr.index 53 (.agg #[.string ⟨#[102,108,117,115,104,32,110,111,119]⟩,.string ⟨#[116,105,99,107,32,48,53]⟩,.string ⟨#[116,105,99,107,32,45]⟩,.string ⟨#[114,101,97,100,32,97,110,110,32,97,32,48]⟩,.string ⟨#[114,101,97,100,32,97,110,110,32,65]⟩,.string ⟨#[101,100,105,116,32,97,110,110,32,65,32,48,32,120,95,121,126,32,45]⟩,.string ⟨#[119,111,114,107,32,49,50,51,52,53,54,55,56,57,48]⟩,.string ⟨#[105,109,112,111,114,116,32,97,110,110,32,65]⟩,.string ⟨#[32,102,108,117,115,104]⟩]) (.int .i64 1)).run Tryz.prog W=.ok (.string ⟨(wrongs.getD 1 []).toArray⟩) W:=by kernel_rfl
theorem wrong_at2 (W:World):(Instr.index 53 (.agg #[.string ⟨#[102,108,117,115,104,32,110,111,119]⟩,.string ⟨#[116,105,99,107,32,48,53]⟩,.string ⟨#[116,105,99,107,32,45]⟩,.string ⟨#[114,101,97,100,32,97,110,110,32,97,32,48]⟩,.string ⟨#[114,101,97,100,32,97,110,110,32,65]⟩,.string ⟨#[101,100,105,116,32,97,110,110,32,65,32,48,32,120,95,121,126,32,45]⟩,.string ⟨#[119,111,114,107,32,49,50,51,52,53,54,55,56,57,48]⟩,.string ⟨#[105,109,112,111,114,116,32,97,110,110,32,65]⟩,.string ⟨#[32,102,108,117,115,104]⟩]) (.int .i64 2)).run Tryz.prog W=.ok (.string ⟨(wrongs.getD 2 []).toArray⟩) W:=by kernel_rfl
theorem wrong_at3 (W:World):(Instr.index 53 (.agg #[.string ⟨#[102,108,117,115,104,32,110,111,119]⟩,.string ⟨#[116,105,99,107,32,48,53]⟩,.string ⟨#[116,105,99,107,32,45]⟩,.string ⟨#[114,101,97,100,32,97,110,110,32,97,32,48]⟩,.string ⟨#[114,101,97,100,32,97,110,110,32,65]⟩,.string ⟨#[101,100,105,116,32,97,110,110,32,65,32,48,32,120,95,121,126,32,45]⟩,.string ⟨#[119,111,114,107,32,49,50,51,52,53,54,55,56,57,48]⟩,.string ⟨#[105,109,112,111,114,116,32,97,110,110,32,65]⟩,.string ⟨#[32,102,108,117,115,104]⟩]) (.int .i64 3)).run Tryz.prog W=.ok (.string ⟨(wrongs.getD 3 []).toArray⟩) W:=by kernel_rfl
theorem wrong_at4 (W:World):(Instr.index 53 (.agg #[.string ⟨#[102,108,117,115,104,32,110,111,119]⟩,.string ⟨#[116,105,99,107,32,48,53]⟩,.string ⟨#[116,105,99,107,32,45]⟩,.string ⟨#[114,101,97,100,32,97,110,110,32,97,32,48]⟩,.string ⟨#[114,101,97,100,32,97,110,110,32,65]⟩,.string ⟨#[101,100,105,116,32,97,110,110,32,65,32,48,32,120,95,121,126,32,45]⟩,.string ⟨#[119,111,114,107,32,49,50,51,52,53,54,55,56,57,48]⟩,.string ⟨#[105,109,112,111,114,116,32,97,110,110,32,65]⟩,.string ⟨#[32,102,108,117,115,104]⟩]) (.int .i64 4)).run Tryz.prog W=.ok (.string ⟨(wrongs.getD 4 []).toArray⟩) W:=by kernel_rfl
theorem wrong_at5 (W:World):(Instr.index 53 (.agg #[.string ⟨#[102,108,117,115,104,32,110,111,119]⟩,.string ⟨#[116,105,99,107,32,48,53]⟩,.string ⟨#[116,105,99,107,32,45]⟩,.string ⟨#[114,101,97,100,32,97,110,110,32,97,32,48]⟩,.string ⟨#[114,101,97,100,32,97,110,110,32,65]⟩,.string ⟨#[101,100,105,116,32,97,110,110,32,65,32,48,32,120,95,121,126,32,45]⟩,.string ⟨#[119,111,114,107,32,49,50,51,52,53,54,55,56,57,48]⟩,.string ⟨#[105,109,112,111,114,116,32,97,110,110,32,65]⟩,.string ⟨#[32,102,108,117,115,104]⟩]) (.int .i64 5)).run Tryz.prog W=.ok (.string ⟨(wrongs.getD 5 []).toArray⟩) W:=by kernel_rfl
theorem wrong_at6 (W:World):(Instr.index 53 (.agg #[.string ⟨#[102,108,117,115,104,32,110,111,119]⟩,.string ⟨#[116,105,99,107,32,48,53]⟩,.string ⟨#[116,105,99,107,32,45]⟩,.string ⟨#[114,101,97,100,32,97,110,110,32,97,32,48]⟩,.string ⟨#[114,101,97,100,32,97,110,110,32,65]⟩,.string ⟨#[101,100,105,116,32,97,110,110,32,65,32,48,32,120,95,121,126,32,45]⟩,.string ⟨#[119,111,114,107,32,49,50,51,52,53,54,55,56,57,48]⟩,.string ⟨#[105,109,112,111,114,116,32,97,110,110,32,65]⟩,.string ⟨#[32,102,108,117,115,104]⟩]) (.int .i64 6)).run Tryz.prog W=.ok (.string ⟨(wrongs.getD 6 []).toArray⟩) W:=by kernel_rfl
theorem wrong_at7 (W:World):(Instr.index 53 (.agg #[.string ⟨#[102,108,117,115,104,32,110,111,119]⟩,.string ⟨#[116,105,99,107,32,48,53]⟩,.string ⟨#[116,105,99,107,32,45]⟩,.string ⟨#[114,101,97,100,32,97,110,110,32,97,32,48]⟩,.string ⟨#[114,101,97,100,32,97,110,110,32,65]⟩,.string ⟨#[101,100,105,116,32,97,110,110,32,65,32,48,32,120,95,121,126,32,45]⟩,.string ⟨#[119,111,114,107,32,49,50,51,52,53,54,55,56,57,48]⟩,.string ⟨#[105,109,112,111,114,116,32,97,110,110,32,65]⟩,.string ⟨#[32,102,108,117,115,104]⟩]) (.int .i64 7)).run Tryz.prog W=.ok (.string ⟨(wrongs.getD 7 []).toArray⟩) W:=by kernel_rfl
theorem wrong_at8 (W:World):(Instr.index 53 (.agg #[.string ⟨#[102,108,117,115,104,32,110,111,119]⟩,.string ⟨#[116,105,99,107,32,48,53]⟩,.string ⟨#[116,105,99,107,32,45]⟩,.string ⟨#[114,101,97,100,32,97,110,110,32,97,32,48]⟩,.string ⟨#[114,101,97,100,32,97,110,110,32,65]⟩,.string ⟨#[101,100,105,116,32,97,110,110,32,65,32,48,32,120,95,121,126,32,45]⟩,.string ⟨#[119,111,114,107,32,49,50,51,52,53,54,55,56,57,48]⟩,.string ⟨#[105,109,112,111,114,116,32,97,110,110,32,65]⟩,.string ⟨#[32,102,108,117,115,104]⟩]) (.int .i64 8)).run Tryz.prog W=.ok (.string ⟨(wrongs.getD 8 []).toArray⟩) W:=by kernel_rfl
theorem wrong_at (r:Nat) (h:r<9) (W:World):(Instr.index 53 (.agg #[.string ⟨#[102,108,117,115,104,32,110,111,119]⟩,.string ⟨#[116,105,99,107,32,48,53]⟩,.string ⟨#[116,105,99,107,32,45]⟩,.string ⟨#[114,101,97,100,32,97,110,110,32,97,32,48]⟩,.string ⟨#[114,101,97,100,32,97,110,110,32,65]⟩,.string ⟨#[101,100,105,116,32,97,110,110,32,65,32,48,32,120,95,121,126,32,45]⟩,.string ⟨#[119,111,114,107,32,49,50,51,52,53,54,55,56,57,48]⟩,.string ⟨#[105,109,112,111,114,116,32,97,110,110,32,65]⟩,.string ⟨#[32,102,108,117,115,104]⟩]) (.int .i64 (r:Int))).run Tryz.prog W=.ok (.string ⟨(wrongs.getD r []).toArray⟩) W:=by
 have:r=0∨r=1∨r=2∨r=3∨r=4∨r=5∨r=6∨r=7∨r=8:=by omega
 rcases this with rfl | rfl | rfl | rfl | rfl | rfl | rfl | rfl | rfl
 ·exact wrong_at0 W
 ·exact wrong_at1 W
 ·exact wrong_at2 W
 ·exact wrong_at3 W
 ·exact wrong_at4 W
 ·exact wrong_at5 W
 ·exact wrong_at6 W
 ·exact wrong_at7 W
 ·exact wrong_at8 W
theorem wrong_mem {r:Nat} (h:r<9):wrongs.getD r []∈wrongs:=by
 rw [List.getD_eq_getElem?_getD,List.getElem?_eq_getElem (by exact h)]
 exact List.getElem_mem _
theorem owns_len {w:World} {base e size:Nat} {A:Option Addr} {m c n:Nat} {xs:List Value} (h:w.ownsRow base e size (.slice A m c) n xs):m=n:=by
 rcases h.2 with ⟨hv,hn⟩ | ⟨g,cap,cur,hv,_⟩
 ·injection hv with _ h2 _;omega
 ·injection hv
theorem count_step (s:ByteArray) (k:Nat) (h:k<s.size):(s.data.toList.take (k+1)).count 10=(s.data.toList.take k).count 10+if s[k]=10 then 1 else 0:=by
 rw [take_snoc s k h,List.count_append,List.count_singleton]
 by_cases hc:s[k]=10 <;> simp [hc]
theorem SrcNums {w w1:World} {A:Option Addr} {m:Nat} (h:NumsA w A m) (b:Below w.heap.size w w1):NumsA w1 A m:=fun j hj=>by
 obtain ⟨a,v,h1,h2,h3,h4⟩:=h j hj
 exact ⟨a,v,h1,Nat.lt_of_lt_of_le h2 b.size,(cell_block (by rw [add_block];exact b.block _ h2)).trans h3,h4⟩
set_option maxRecDepth 100000 in
set_option maxHeartbeats 8000000 in
theorem wrong_ok (A:Option Addr) (m c:Nat) (a which:Int) (w:World) (hm:m≤9223372036854775807) (hl:NumsA w A m) (hg:GlN w) (hAw:AwK w):Calls Tryz.prog 7 #[.slice A m c,.int .i64 a,.int .i64 which] w (RetB (.bool true) w):=by
 have hR6:=fun W=>roundB a 6 W (by decide) (by decide)
 have hR9:=fun W=>roundB which 9 W (by decide) (by decide)
 have h6:=rnd_lt a (n:=6) (by decide)
 have h9:=rnd_lt which (n:=9) (by decide)
 generalize rnd a 6=ra at *
 generalize rnd which 9=rq at *
 change ∀ W,Calls _ _ #[_,.int .i64 6] _ _ at hR6
 change ∀ W,Calls _ _ #[_,.int .i64 9] _ _ at hR9
 have hix:=wrong_at rq h9
 have hwm:=wrong_mem h9
 obtain ⟨_,_,_,hw4⟩:=wrong_lines _ hwm
 have HWM:=Lib.hid hwm
 clear hwm
 generalize wrongs.getD rq []=wd at *
 go_enter Tryz.func7,Tryz.ntmps7
 go_wp2_with (go_at_call 11;refine (hR6 _).mono ?_)
 rintro e W1 ⟨rfl,b1⟩
 have hMd:=made_ok A m c ra W1 hm (SrcNums hl b1) (by omega)
 have hg1:=hg.below b1
 clear hR6
 go_wp2_with (go_at_call 10;refine hMd.mono ?_)
 rintro e W2 ⟨ls,hM,rfl,b2⟩
 have hB2:=b1.trans (b2.mono b1.size)
 clear hMd b1 b2 hl
 have hno:∀ l∈ls,10 ∉ l:=fun l h=>made_no (hM.all l h)
 have hcnt:=count_lns hno
 have hs2:=hM.size
 have hs3:=hM.len
 have hpw:=parse_wrong hM.all HWM.out (by omega) (by omega)
 have HPW:=Lib.hid hpw
 have HCN:=Lib.hid hcnt
 clear hpw hcnt hno hM
 generalize hS:(⟨(lns ls).toArray⟩:ByteArray)=S at *
 have hSd:lns ls=S.data.toList:=by rw [← hS]
 rw [hSd] at HPW HCN hs2
 rw [← size_len] at hs2
 clear hS hSd
 have hgW:=hg.below hB2
 go_wp2
 go_loopw [8,9] (fun n i wr=>∃ k:Nat,k≤S.size∧i=.int .i64 k∧n=.int .i64 ((1+(S.data.toList.take k).count 10:Nat):Int)∧wr=W2) (fun _ i _=>S.size - (intOf i).toNat)
 case atStart=>exact ⟨0,Nat.zero_le _,rfl,rfl,rfl⟩
 case round =>
  obtain ⟨k,hk,rfl,rfl,rfl⟩:=hrel
  have hcl:(S.data.toList.take k).count 10≤k:=Nat.le_trans List.count_le_length (List.length_take_le _ _)
  by_cases hlt:k<S.size
  ·have hst:=count_step S k hlt
   generalize (S.data.toList.take k).count 10=cn at *
   generalize hcn1:(S.data.toList.take (k+1)).count 10=cn1 at *
   have HC1:=Lib.hid hcn1
   clear hcn1
   by_cases hc:S[k]=10
   ·have f1:((S[k].toNat:Int) == 10)=true:=by rw [hc];rfl
    rw [if_pos hc] at hst
    have HST:=Lib.hid hst
    clear hst hc
    go_wp2
    go_roundw
    case rel=>exact ⟨k+1,by omega,by go_num,by rw [HC1.out,HST.out];go_num,trivial⟩
    case measure=>simp [intOf];omega
   ·have f1:((S[k].toNat:Int) == 10)=false:=beq_no hc
    rw [if_neg hc] at hst
    have HST:=Lib.hid hst
    clear hst hc
    go_wp2
    go_roundw
    case rel=>exact ⟨k+1,by omega,by go_num,by rw [HC1.out,HST.out];rfl,trivial⟩
    case measure=>simp [intOf];omega
  ·rw [List.take_of_length_le (by rw [← size_len];omega),HCN.out]
   have hcat:S ++ ⟨wd.toArray⟩ ++ ⟨#[10,102,108,117,115,104,10]⟩=⟨(S.data.toList ++ (wd ++ [10,102,108,117,115,104,10])).toArray⟩:=bytes_ext (by simp)
   have hlw:=lsize wd
   have hwz:(⟨wd.toArray⟩:ByteArray).size≤30:=hw4
   have hPa:∀ W,GlN W→Calls Tryz.prog 20 #[.string (S ++ ⟨wd.toArray⟩ ++ ⟨#[10,102,108,117,115,104,10]⟩)] W (fun e w'=>Below W.heap.size W w'∧∃ v ps,EvsOwn w' W.heap.size v ps∧e=.returned (.tuple #[v,.int .i64 ((ls.length:Int)+1),.int .i64 1])∧([]:List Ev)=ps.map (·.1)):=fun W h=>by
    have h1:=Parse_ok (S ++ ⟨wd.toArray⟩ ++ ⟨#[10,102,108,117,115,104,10]⟩) W (by rw [ByteArray.size_append,ByteArray.size_append];show S.size+(⟨wd.toArray⟩:ByteArray).size+7<_;omega) h
    rw [show (S ++ ⟨wd.toArray⟩ ++ ⟨#[10,102,108,117,115,104,10]⟩:ByteArray).data.toList=S.data.toList ++ (wd ++ [10,102,108,117,115,104,10]) by rw [hcat]] at h1
    unfold RetP at h1
    rw [HPW.out] at h1
    exact h1
   rw [show ((1+ls.length:Nat):Int)=(ls.length:Int)+1 by omega]
   clear hcat hcl hlw
   generalize (⟨wd.toArray⟩:ByteArray)=D at *
   generalize (ls.length:Int)+1=q at *
   go_wp2_with (go_at_call 11;refine (hR9 _).mono ?_)
   rintro e W3 ⟨rfl,b3⟩
   have hB3:=hB2.trans (b3.mono hB2.size)
   have hg3:=hgW.below b3
   clear hR9 b3 hgW
   go_wp2_with (go_at_call 20;refine (hPa _ hg3).mono ?_)
   rintro e W4 ⟨b4,v,ps,hE,rfl,hps⟩
   have hB4:=hB3.trans (b4.mono hB3.size)
   obtain rfl:ps=[]:=List.map_eq_nil_iff.1 hps.symm
   obtain ⟨A2,m2,c2,rfl⟩:=owns_slice hE.row
   obtain rfl:m2=0:=owns_len hE.row
   have hAw4:=hAw W4 hB4
   clear hPa b4 hB3 hE hps
   go_wp2_with (go_at_call 9;refine hAw4.mono ?_)
   rintro e W5 ⟨rfl,b5⟩
   have hB5:=hB4.trans (b5.mono hB4.size)
   clear hAw4 b5 hB4
   go_wp2
   go_ret
   exact ⟨rfl,hB5⟩
end Go.Proofs
