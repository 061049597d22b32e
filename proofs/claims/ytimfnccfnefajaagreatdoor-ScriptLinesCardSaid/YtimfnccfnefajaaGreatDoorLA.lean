/- A part of the proof: SpM, Wy, Wz, Gj, SpW, Mc, Md -/
import Derived.Test.YtimfnccfnefajaaGreatDoorVWb
import Derived.Test.YtimfnccfnefajaaGreatDoorVWi
import Derived.Test.YtimfnccfnefajaaGreatDoorVWj
import Derived.Test.YtimfnccfnefajaaGreatDoorVWk
import Derived.Test.YtimfnccfnefajaaGreatDoorVMb
import Derived.Laws.OwnMore
import Derived.Test.YtimfnccfnefajaaGreatDoorVMa
import Derived.Test.YtimfnccfnefajaaGreatDoorVRh
import Derived.Test.YtimfnccfnefajaaGreatDoorVRg
import Derived.Test.YtimfnccfnefajaaGreatDoorVRf
import Derived.Test.YtimfnccfnefajaaGreatDoorVRe
import Derived.Test.YtimfnccfnefajaaGreatDoorVRd
import Derived.Test.YtimfnccfnefajaaGreatDoorVRa
import Derived.Test.YtimfnccfnefajaaGreatDoorVWh
import Derived.Test.YtimfnccfnefajaaGreatDoorVWg
import Derived.Test.YtimfnccfnefajaaGreatDoorVWf
import Derived.Test.YtimfnccfnefajaaGreatDoorVWe
import Derived.Test.YtimfnccfnefajaaGreatDoorVWd
import Derived.Test.YtimfnccfnefajaaGreatDoorVWc
import Derived.Test.YtimfnccfnefajaaGreatDoorVWa
import Derived.Test.YtimfnccfnefajaaGreatDoorVRc
import Derived.Test.YtimfnccfnefajaaGreatDoorVRb
import Derived.Test.YtimfnccfnefajaaGreatDoorVWl
import Derived.Test.YtimfnccfnefajaaGreatDoorVWn
import Derived.Test.YtimfnccfnefajaaGreatDoorVWm
set_option linter.unusedSimpArgs false
set_option linter.unusedVariables false
namespace Go.Sp
theorem body_nil:bodyOf []=[[]]:=by decide
end Go.Sp
namespace Go.Proofs
open Go.RowKit Go.Sp
set_option maxRecDepth 100000 in
set_option maxHeartbeats 4000000 in
theorem same_revs (A B:Option Addr) (c d:Nat) (l m:List Rev) (w:World) (hmx:l.length≤9223372036854775807) (hA:HRd w A l) (hB:HRd w B m):Calls Tryz.prog 45 #[.slice A l.length c,.slice B m.length d] w (RetB (.bool (decide (l=m))) w):=by
 by_cases hlen:l.length=m.length
 ·have hne:∀ k,k<l.length→rv l k≠rv m k→decide (l=m)=false:=fun k _ h=>by
   rw [decide_eq_false_iff_not];rintro rfl;exact h rfl
  have heq:(∀ i,i<l.length→rv l i=rv m i)→decide (l=m)=true:=fun h=>by
   rw [decide_eq_true_iff];exact rev_ext hlen h
  generalize decide (l=m)=r at *
  have HNE:=Lib.hid hne
  have HEQ:=Lib.hid heq
  clear hne heq
  go_enter Tryz.func45,Tryz.ntmps45
  generalize hn:l.length=n at *
  generalize hn2:m.length=n2 at *
  subst hlen
  have HN:=Lib.hid hn
  have HN2:=Lib.hid hn2
  clear hn hn2
  go_wp2
  go_loopw [5] (fun i wr=>∃ (k:Nat),k≤n∧i=.int .i64 k∧Below w.heap.size w wr∧∀ i,i<k→rv l i=rv m i) (fun i _=>n - (intOf i).toNat)
  case atStart=>exact ⟨0,Nat.zero_le _,rfl,Below.refl _ _,fun i hi=>by omega⟩
  case round =>
   obtain ⟨k,hk,rfl,hW,hx⟩:=hrel
   by_cases hkn:k<n
   ·obtain ⟨g,o,rfl,hg,hra⟩:=hA k (by rw [HN.out];exact hkn)
    obtain ⟨g',o',rfl,hg',hrb⟩:=hB k (by rw [HN2.out];exact hkn)
    have hra:=hra.keep (hW.block g hg)
    have hrb:=hrb.keep (hW.block g' hg')
    have hbad:=fun h=>HNE.out k hkn h
    have hgood:rv l k=rv m k→∀ i,i<k+1→rv l i=rv m i:=fun h i hi=>by
     by_cases hik:i<k
     ·exact hx i hik
     ·rw [show i=k from by omega];exact h
    have HB:=Lib.hid hbad
    have HG:=Lib.hid hgood
    clear hbad hgood hx hA hB
    generalize rv l k=ra at *
    generalize rv m k=rb at *
    obtain ⟨a0,a1,a2,a3,a4,a5⟩:=hra
    obtain ⟨b0,b1,b2,b3,b4,b5⟩:=hrb
    rcases rev_cases ra rb with rfl | ⟨hne,hcs⟩
    ·have HG2:=Lib.hid (HG.out rfl)
     clear HG HB
     go_wp2
     go_region
     go_wp2
     go_roundw
     case rel=>exact ⟨k+1,by omega,by go_num,hW.drew,HG2.out⟩
     case measure=>simp [intOf];omega
    ·have HR:=Lib.hid (HB.out hne)
     clear HG HB hne
     rcases hcs with q1 | ⟨q1,q2⟩ | ⟨q1,q2,q3⟩ | ⟨q1,q2,q3,q4⟩ | ⟨q1,q2,q3,q4,q5⟩ | ⟨q1,q2,q3,q4,q5,q6⟩
     all_goals
      go_wp2
      go_region
      go_wp2
      go_ret
      exact ⟨by rw [HR.out];rfl,hW.drew⟩
   ·have hkn2:k=n:=by omega
    subst hkn2
    have HR:=Lib.hid (HEQ.out hx)
    clear hx hA hB
    go_wp2
    go_ret
    exact ⟨by rw [HR.out];rfl,hW⟩
 ·have hr:decide (l=m)=false:=by rw [decide_eq_false_iff_not];rintro rfl;exact hlen rfl
  rw [hr]
  go_enter Tryz.func45,Tryz.ntmps45
  generalize l.length=n at *
  generalize m.length=n2 at *
  have hn:¬ (n:Int)=n2:=by omega
  clear hr hA hB hmx
  go_wp2
  go_ret
  exact ⟨rfl,Below.refl _ _⟩
end Go.Proofs
namespace Go.Proofs
open Go.RowKit Go.Sp
set_option maxRecDepth 100000 in
set_option maxHeartbeats 4000000 in
theorem event_same (a b:Ev) (A B:Option Addr) (c d:Nat) (w:World) (hmx:a.hist.length≤9223372036854775807) (hA:HRd w A a.hist) (hB:HRd w B b.hist):Calls Tryz.prog 21 #[evV a (.slice A a.hist.length c),evV b (.slice B b.hist.length d)] w (RetB (.bool (decide (a=b))) w):=by
 obtain ⟨h1,h2,hb⟩:=EBlk.two w a b (.slice A a.hist.length c) (.slice B b.hist.length d)
 have hE:=same_revs A B c d a.hist b.hist _ hmx (hA.below hb) (hB.below hb)
 unfold evV
 unfold ecells at *
 go_enter Tryz.func21,Tryz.ntmps21
 go_upto_region 1 with fail
 generalize (w.alloc _).alloc _=W at *
 clear hA hB hmx
 have a0:=h1.c0
 have a1:=h1.c1
 have a2:=h1.c2
 have a3:=h1.c3
 have a4:=h1.c4
 have a5:=h1.c5
 have a6:=h1.c6
 have a7:=h1.c7
 have a8:=h1.c8
 have a9:=h1.c9
 have a10:=h1.c10
 have b0:=h2.c0
 have b1:=h2.c1
 have b2:=h2.c2
 have b3:=h2.c3
 have b4:=h2.c4
 have b5:=h2.c5
 have b6:=h2.c6
 have b7:=h2.c7
 have b8:=h2.c8
 have b9:=h2.c9
 have b10:=h2.c10
 have hp:=h1.lt
 clear h1 h2
 generalize hP:w.heap.size=p at *
 have HP:=Lib.hid hP
 clear hP
 rcases ev_cases a b with rfl | ⟨hne,hcs⟩
 ·have HD:=Lib.hid (show decide (a=a)=true by simp)
  go_wp2_with (go_at_call 45;refine hE.mono ?_)
  rintro e W1 ⟨rfl,b1'⟩
  have hb2:=hb.trans (b1'.mono (Nat.le_of_lt hp))
  have hd:decide (a.hist=a.hist)=true:=by simp
  clear hE b1' hb
  go_wp2
  go_ret
  exact ⟨by rw [HD.out];simp,by rw [HP.out];exact hb2⟩
 ·have HD:=Lib.hid (decide_eq_false hne)
  clear hne
  rcases hcs with q1 | ⟨q1,q2⟩ | ⟨q1,q2,q3⟩ | ⟨q1,q2,q3,q4⟩ | ⟨q1,q2,q3,q4,q5⟩ | ⟨q1,q2,q3,q4,q5,q6⟩ | ⟨q1,q2,q3,q4,q5,q6,q7⟩ | ⟨q1,q2,q3,q4,q5,q6,q7,q8⟩ | ⟨q1,q2,q3,q4,q5,q6,q7,q8,q9⟩ | ⟨q1,q2,q3,q4,q5,q6,q7,q8,q9,q10⟩ | ⟨q1,q2,q3,q4,q5,q6,q7,q8,q9,q10,q11⟩
  case inr.inr.inr.inr.inr.inr.inr.inr.inr.inr.inr =>
   have hd:=decide_eq_false q11
   rw [hd] at hE
   clear q11 hd
   go_wp2_with (go_at_call 45;refine hE.mono ?_)
   rintro e W1 ⟨rfl,b1'⟩
   have hb2:=hb.trans (b1'.mono (Nat.le_of_lt hp))
   clear hE b1' hb
   go_wp2
   go_ret
   exact ⟨by rw [HD.out];rfl,by rw [HP.out];exact hb2⟩
  all_goals
   clear hE
   go_wp2
   go_ret
   exact ⟨by rw [HD.out];first | rfl | exact congrArg (fun x=>Ending.returned (Value.bool x)) (beq_eq_false_iff_ne.2 (by assumption)),by rw [HP.out];exact hb⟩
end Go.Proofs
namespace Go.Proofs
open Go.RowKit Go.Sp
theorem pcells_at:∀ (ps:List (Ev×Value)) (i j:Nat),i<ps.length→j<11→(pcells ps)[i * 11+j]? = (ecells (pv ps i).1 (pv ps i).2).toList[j]?
 | [],_,_,h,_=>by cases h
 | p :: ps,0,j,_,hj=>by
  rw [Nat.zero_mul,Nat.zero_add]
  show ((ecells p.1 p.2).toList ++ pcells ps)[j]? = _
  rw [List.getElem?_append_left (by simpa [ecells] using hj)];rfl
 | p :: ps,i+1,j,h,hj=>by
  show ((ecells p.1 p.2).toList ++ pcells ps)[(i+1) * 11+j]? = _
  have hlen:(ecells p.1 p.2).toList.length=11:=rfl
  rw [List.getElem?_append_right (by rw [hlen];omega),hlen,show (i+1) * 11+j - 11=i * 11+j from by omega,pcells_at ps i j (by simpa using h) hj]
  rfl
theorem evs_rd {w:World} {base:Nat} {A:Option Addr} {m c:Nat} {ps:List (Ev×Value)} (h:EvsOwn w base (.slice A m c) ps):m=ps.length∧EvsRd w A ps:=by
 rcases h.row.2 with ⟨hv,hn⟩ | ⟨g,cap,cur,hv,hb,hg,hr⟩
 ·injection hv with h1 h2 h3
  exact ⟨by omega,fun i hi=>by omega⟩
 ·injection hv with h1 h2 h3
  subst h1 h2
  have hc:=h.row.cells (g:=g) rfl
  have hadd:∀ j,(⟨g,0,none⟩:Addr).add j=⟨g,j,none⟩:=fun j=>by unfold Addr.add;split <;> simp_all
  refine ⟨rfl,fun i hi=>?_⟩
  have hm:pv ps i∈ps:=by
   unfold pv
   rw [List.getD_eq_getElem?_getD,List.getElem?_eq_getElem hi]
   exact List.getElem_mem hi
  have ho:=h.hist _ hm
  obtain ⟨B,m,d,hv⟩:=owns_slice ho
  rw [hv] at ho
  obtain ⟨rfl,hB⟩:=owns_rd ho
  have hx:∀ j u,j<11→(ecells (pv ps i).1 (pv ps i).2).toList[j]? = some u→w.cell? ⟨g,i * 11+j,none⟩=some u:=fun j u hj hu=>by
   rw [← hadd];exact hc _ _ ((pcells_at ps i j hi hj).trans hu)
  refine ⟨g,0,B,d,rfl,(Array.getElem?_eq_some_iff.1 hg).1,hv,?_,hB,owns_max ho⟩
  rw [Nat.zero_add,← hv]
  exact ⟨hx 0 _ (by decide) rfl,hx 1 _ (by decide) rfl,hx 2 _ (by decide) rfl,hx 3 _ (by decide) rfl,hx 4 _ (by decide) rfl,hx 5 _ (by decide) rfl,hx 6 _ (by decide) rfl,hx 7 _ (by decide) rfl,hx 8 _ (by decide) rfl,hx 9 _ (by decide) rfl,hx 10 _ (by decide) rfl⟩
theorem pair_ext {a b:List (Ev×Value)} (h:a.length=b.length) (hx:∀ i,i<a.length→(pv a i).1=(pv b i).1):a.map (·.1)=b.map (·.1):=by
 refine List.ext_getElem (by simpa using h) fun i h1 h2=>?_
 have h1':i<a.length:=by simpa using h1
 have h2':i<b.length:=by simpa using h2
 have:=hx i h1'
 unfold pv at this
 rw [List.getD_eq_getElem?_getD,List.getD_eq_getElem?_getD,List.getElem?_eq_getElem h1',List.getElem?_eq_getElem h2'] at this
 simpa using this
theorem pair_at {a:List (Ev×Value)} {i:Nat} (h:i<a.length):(a.map (·.1))[i]? = some (pv a i).1:=by
 unfold pv
 rw [List.getElem?_map,List.getD_eq_getElem?_getD,List.getElem?_eq_getElem h];rfl
set_option maxRecDepth 100000 in
set_option maxHeartbeats 4000000 in
theorem same_events (A B:Option Addr) (c d:Nat) (l m:List (Ev×Value)) (w:World) (hmx:l.length≤9223372036854775807) (hA:EvsRd w A l) (hB:EvsRd w B m):Calls Tryz.prog 22 #[.slice A l.length c,.slice B m.length d] w (RetB (.bool (decide (l.map (·.1)=m.map (·.1)))) w):=by
 by_cases hlen:l.length=m.length
 ·have hne:∀ k,k<l.length→(pv l k).1≠(pv m k).1→decide (l.map (·.1)=m.map (·.1))=false:=fun k hk h=>by
   rw [decide_eq_false_iff_not]
   intro hq
   have h1:=pair_at hk
   rw [hq,pair_at (by omega)] at h1
   exact h (Option.some.inj h1).symm
  have heq:(∀ i,i<l.length→(pv l i).1=(pv m i).1)→decide (l.map (·.1)=m.map (·.1))=true:=fun h=>by
   rw [decide_eq_true_iff];exact pair_ext hlen h
  generalize decide (l.map (·.1)=m.map (·.1))=r at *
  have HNE:=Lib.hid hne
  have HEQ:=Lib.hid heq
  clear hne heq
  go_enter Tryz.func22,Tryz.ntmps22
  generalize hn:l.length=n at *
  generalize hn2:m.length=n2 at *
  subst hlen
  have HN:=Lib.hid hn
  have HN2:=Lib.hid hn2
  clear hn hn2
  go_wp2
  go_loopw [5] (fun i wr=>∃ (k:Nat),k≤n∧i=.int .i64 k∧Below w.heap.size w wr∧∀ i,i<k→(pv l i).1=(pv m i).1) (fun i _=>n - (intOf i).toNat)
  case atStart=>exact ⟨0,Nat.zero_le _,rfl,Below.refl _ _,fun i hi=>by omega⟩
  case round =>
   obtain ⟨k,hk,rfl,hW,hx⟩:=hrel
   by_cases hkn:k<n
   ·obtain ⟨g,o,B1,d1,rfl,hg,_,hra,hb1,hm1⟩:=hA k (by rw [HN.out];exact hkn)
    obtain ⟨g',o',B2,d2,rfl,hg',_,hrb,hb2,_⟩:=hB k (by rw [HN2.out];exact hkn)
    have hra:=hra.keep (hW.block g hg)
    have hrb:=hrb.keep (hW.block g' hg')
    have hS:=fun W (x:Below w.heap.size w W)=>event_same (pv l k).1 (pv m k).1 B1 B2 d1 d2 W hm1 (hb1.below x) (hb2.below x)
    have hbad:=fun h=>HNE.out k hkn h
    have hgood:(pv l k).1=(pv m k).1→∀ i,i<k+1→(pv l i).1=(pv m i).1:=fun h i hi=>by
     by_cases hik:i<k
     ·exact hx i hik
     ·rw [show i=k from by omega];exact h
    have HB:=Lib.hid hbad
    have HG:=Lib.hid hgood
    clear hbad hgood hx hA hB hb1 hb2 hm1
    generalize (pv l k).1=ra at *
    generalize (pv m k).1=rb at *
    obtain ⟨a0,a1,a2,a3,a4,a5,a6,a7,a8,a9,a10⟩:=hra
    obtain ⟨b0,b1,b2,b3,b4,b5,b6,b7,b8,b9,b10⟩:=hrb
    have hS2:=hS wr.drew hW.drew
    unfold evV ecells at hS2
    clear hS
    by_cases hab:ra=rb
    ·have HG2:=Lib.hid (HG.out hab)
     rw [decide_eq_true hab] at hS2
     clear HG HB hab
     go_wp2
     go_region_with (go_at_call 21;refine hS2.mono ?_;rintro e W1 ⟨rfl,b1⟩;have hW1:=hW.drew.trans (b1.mono hW.size))
     all_goals
      clear hS2 hW
      go_wp2
      go_roundw
      case rel=>exact ⟨k+1,by omega,by go_num,hW1,HG2.out⟩
      case measure=>simp [intOf];omega
    ·have HR:=Lib.hid (HB.out hab)
     rw [decide_eq_false hab] at hS2
     clear HG HB hab
     go_wp2
     go_region_with (go_at_call 21;refine hS2.mono ?_;rintro e W1 ⟨rfl,b1⟩;have hW1:=hW.drew.trans (b1.mono hW.size))
     all_goals
      clear hS2 hW
      go_wp2
      go_ret
      exact ⟨by rw [HR.out];rfl,hW1⟩
   ·have hkn2:k=n:=by omega
    subst hkn2
    have HR:=Lib.hid (HEQ.out hx)
    clear hx hA hB
    go_wp2
    go_ret
    exact ⟨by rw [HR.out];rfl,hW⟩
 ·have hr:decide (l.map (·.1)=m.map (·.1))=false:=by rw [decide_eq_false_iff_not];intro h;exact hlen (by simpa using congrArg List.length h)
  rw [hr]
  go_enter Tryz.func22,Tryz.ntmps22
  generalize l.length=n at *
  generalize m.length=n2 at *
  have hn:¬ (n:Int)=n2:=by omega
  clear hr hA hB hmx
  go_wp2
  go_ret
  exact ⟨rfl,Below.refl _ _⟩
end Go.Proofs
namespace Go.Sp
theorem body_made {ls:List Bs} (h:∀ l∈ls,MadeLine l):linesS 0 (bodyOf (lns ls))=linesS 0 ls∧(bodyOf (lns ls)).length≤ls.length+1:=by
 rcases List.eq_nil_or_concat ls with rfl | ⟨L,b,rfl⟩
 ·rw [show lns []=[] from rfl,body_nil]
  exact ⟨by rw [linesS_note (.inl rfl)];rfl,by decide⟩
 ·rw [List.concat_eq_append] at h ⊢
  rw [body_lns (fun l hl=>made_no (h l (List.mem_append_left _ hl))) (made_no (h b (by simp)))]
  exact ⟨rfl,Nat.le_succ _⟩
theorem parse_made {ls:List Bs} (h:∀ l∈ls,MadeLine l) (h1:(lns ls).length≤32768) (h2:ls.length<400) {es:List Ev} (he:∀ i,linesS i ls=(es,0,0)):parseS (lns ls)=(es,0,0):=by
 obtain ⟨e1,e2⟩:=body_made h
 unfold parseS
 rw [if_neg (by omega),e1,he]
theorem parse_two {xs ys:List Bs} (ha:∀ l∈xs,MadeLine l) (hb:∀ l∈ys,MadeLine l) (h1:(lns xs).length+(lns ys).length+16≤32768) (h2:xs.length+ys.length+2<400) :
 ∃ es fs,parseS (lns xs)=(es,0,0)∧parseS (lns ys)=(fs,0,0)∧parseS (lns xs ++ (10 :: another ++ 10 :: lns ys))=(es ++ fs,0,0):=by
 obtain ⟨es,he⟩:=made_lines ha
 obtain ⟨fs,hf⟩:=made_lines hb
 refine ⟨es,fs,parse_made ha (by omega) (by omega) he,parse_made hb (by omega) (by omega) hf,?_⟩
 have e:lns xs ++ (10 :: another ++ 10 :: lns ys)=lns (xs ++ ([] :: another :: ys)):=by
  rw [lns_app,lns_cons,lns_cons]
  rfl
 rw [e]
 have hall:∀ l∈xs ++ ([] :: another :: ys),MadeLine l:=by
  intro l hl
  rcases List.mem_append.1 hl with hl | hl
  ·exact ha l hl
  ·rcases List.mem_cons.1 hl with rfl | hl
   ·exact .inl rfl
   ·rcases List.mem_cons.1 hl with rfl | hl
    ·exact .inr (.inr (.inl rfl))
    ·exact hb l hl
 refine parse_made hall ?_ ?_ fun i=>?_
 ·rw [← e]
  have:another.length=14:=rfl
  simp only [List.length_append,List.length_cons]
  omega
 ·simp only [List.length_append,List.length_cons]
  omega
 ·rw [linesS_app (he i),linesS_note (.inl rfl),linesS_note (.inr rfl),hf]
  rfl
end Go.Sp
namespace Go.Proofs
open Go.RowKit Go.Sp
theorem joinR_len (a:List Ev) (r:List Ev×Int×Int):(joinR a r).1.length≤a.length+r.1.length:=by
 obtain ⟨es,n,k⟩:=r
 unfold joinR
 split <;> simp
theorem linesS_len:∀ (ls:List Bs) (i:Nat),(linesS i ls).1.length≤ls.length
 | [],_=>Nat.le_refl _
 | l :: ls,i=>by
  by_cases h:isNote l
  ·rw [linesS_note h];exact Nat.le_succ_of_le (linesS_len ls (i+1))
  ·cases h2:lineS l with
   | none=>rw [linesS_bad h h2];exact Nat.zero_le _
   | some e =>
    rw [linesS_good h h2]
    have:=joinR_len [e] (linesS (i+1) ls)
    have:=linesS_len ls (i+1)
    simp only [List.length_cons,List.length_nil] at *
    omega
theorem parseS_len (s:Bs):(parseS s).1.length≤400:=by
 unfold parseS
 split
 ·exact Nat.zero_le _
 ·have:=linesS_len (bodyOf s) 0
  omega
theorem wpList_wanted {P:Program} {ops:Array Oper} {Q:Exit→Act→World→Prop} {a:Act} {w:World} {rest:List Oper} {o:Oper} (hw:Region.wanted o (yielded ops a.tmps)=true) (h:o.wp P a w (wpList P ops Q rest) Q):wpList P ops Q (o :: rest) a w:=by
 unfold wpList
 rw [if_pos hw]
 exact .inl h
theorem EvsOwn.one {w:World} {base:Nat} {v:Value} {ps:List (Ev×Value)} (h:EvsOwn w base v ps):∀ u∈pcells ps,u.oneCell'=true:=by
 intro u hu
 unfold pcells at hu
 obtain ⟨p,hp,hu⟩:=List.mem_flatMap.1 hu
 obtain ⟨A,m,c,hv⟩:=owns_slice (h.hist p hp)
 exact one_ecells p.1 p.2 (by rw [hv];rfl) u hu
theorem wp_app_evs {o:Oper} {a:Act} {K:Act→World→Prop} {Q:Exit→Act→World→Prop} {w:World} (s x:Operand)
 (ho:o.op=.call { callee:=.builtin .append,args:=#[s,x],argTypes:=#[46,46] }) (base:Nat) (v:Value) (n:Nat) (xs:List Value) (hs:a.eval s=v) (hown:w.ownsRow base 33 11 v n xs) (hbase:base≤w.heap.size)
 (base2:Nat) (u:Value) (ps:List (Ev×Value)) (hx:a.eval x=u) (hE:EvsOwn w base2 u ps) (hn:n≤400) (hm:ps.length≤400)
 (h:∀ v' w',w'.ownsRow base 33 11 v' (n+ps.length) (xs ++ pcells ps)→Below base w w'→K (a.put o.dst v') w'):o.wp Tryz.prog a w K Q:=by
 obtain ⟨i0,hi,hz0,hz1,hz2⟩:=info_parts info33
 rcases hE.row.2 with ⟨rfl,hp⟩ | ⟨g,cap,cur,rfl,_,hg,_⟩
 ·have hrun:=run_append_owned_none (P:=Tryz.prog) (w:=w) base 46 o.type 33 i0 11 und46 hi v n xs hown
  have hp0:ps=[]:=List.eq_nil_of_length_eq_zero hp
  subst hp0
  have hh:=h v w (by simpa [pcells] using hown) (Below.refl _ _)
  unfold Oper.wp
  simp [execOp,ho,resolve,invoke,builtin,hs,hx,hrun,Result.andThen]
  exact hh
 ·have hc:=hE.row.cells (g:=g) rfl
  have hl:=hE.row.1
  exact wp_append_own w s x 46 ho base 33 i0 _ 11 144 und46 hi hz0 hz1 hz2 rfl (by decide) v n xs hs hown ⟨g,0,none⟩ ps.length cap (pcells ps) hx hl hc hE.one (by unfold maxLen;omega) (by omega) hbase
   fun v' w' h1 h2 _=>h v' w' h1 ((Below.refl base w).grown h2 hbase (fun g h=>owns_base hown g h))
end Go.Proofs
namespace Go.Proofs
open Go.RowKit Go.Sp
def RetPk (es:List Ev) (l k:Int) (w:World) (e:Ending) (w':World):Prop:=Below w.heap.size w w'∧∃ A c ps,EvsOwn w' w.heap.size (.slice A ps.length c) ps∧e=.returned (.tuple #[.slice A ps.length c,.int .i64 l,.int .i64 k])∧es=ps.map (·.1)∧ps.length≤400
theorem parse_is (s:ByteArray) (w:World) (hs:s.size<4294960000) (hg:GlN w) {es:List Ev} {l k:Int} (h:parseS s.data.toList=(es,l,k)):Calls Tryz.prog 20 #[.string s] w (RetPk es l k w) :=
 (Parse_ok s w hs hg).mono fun e w' ⟨hb,v,ps,hE,he,hq⟩=>by
  have hle:=parseS_len s.data.toList
  rw [h] at he hq hle
  rw [hq,List.length_map] at hle
  obtain ⟨A,m,c,rfl⟩:=owns_slice hE.row
  obtain rfl:=owns_len hE.row
  exact ⟨hb,A,c,ps,hE,he,hq,hle⟩
theorem evs_two {w:World} {base b1 b2 b3:Nat} {u v x:Value} {ps qs:List (Ev×Value)} (h1:EvsOwn w b1 u ps) (h2:EvsOwn w b2 v qs) (ho:w.ownsRow b3 33 11 x (ps.length+qs.length) (pcells ps ++ pcells qs)) (e3:base≤b3) (e1:base≤b1) (e2:base≤b2):EvsOwn w base x (ps ++ qs):=by
 refine ⟨?_,fun p hp=>?_⟩
 ·rw [List.length_append,show pcells (ps ++ qs)=pcells ps ++ pcells qs from List.flatMap_append]
  exact owns_mono ho e3
 ·rcases List.mem_append.1 hp with hp | hp
  ·exact owns_mono (h1.hist p hp) e1
  ·exact owns_mono (h2.hist p hp) e2
set_option maxRecDepth 100000 in
set_option maxHeartbeats 8000000 in
theorem lines_ok (A B:Option Addr) (m n c d:Nat) (a b:Int) (w:World) (hm:m≤9223372036854775807) (hn:n≤9223372036854775807) (hl:NumsA w A m) (hl2:NumsA w B n) (hg:GlN w) (hAw:AwK w):Calls Tryz.prog 6 #[.slice A m c,.slice B n d,.int .i64 a,.int .i64 b] w (RetB (.bool true) w):=by
 have hRa:=fun W=>roundB a 5 W (by decide) (by decide)
 have hRb:=fun W=>roundB b 5 W (by decide) (by decide)
 have h5:=rnd_lt a (n:=5) (by decide)
 have h6:=rnd_lt b (n:=5) (by decide)
 generalize rnd a 5=ra at *
 generalize rnd b 5=rb at *
 change ∀ W,Calls _ _ #[_,.int .i64 5] _ _ at hRa
 change ∀ W,Calls _ _ #[_,.int .i64 5] _ _ at hRb
 go_enter Tryz.func6,Tryz.ntmps6
 go_wp2_with (go_at_call 11;refine (hRa _).mono ?_)
 rintro e W1 ⟨rfl,b1⟩
 have hMd:=made_ok A m c ra W1 hm (SrcNums hl b1) (by omega)
 clear hRa
 go_wp2_with (go_at_call 10;refine hMd.mono ?_)
 rintro e W2 ⟨xs,hM1,rfl,b2⟩
 have hB2:=b1.trans (b2.mono b1.size)
 clear hMd b1 b2 hl
 have ha:=hM1.all
 have hs1:=hM1.size
 have hc1:=hM1.len
 have hz1:(⟨(lns xs).toArray⟩:ByteArray).size=(lns xs).length:=lsize _
 have hd1:(⟨(lns xs).toArray⟩:ByteArray).data.toList=lns xs:=rfl
 clear hM1
 generalize hS1:(⟨(lns xs).toArray⟩:ByteArray)=S1 at *
 have HS1:=Lib.hid hS1
 clear hS1
 go_wp2_with (go_at_call 11;refine (hRb _).mono ?_)
 rintro e W3 ⟨rfl,b3⟩
 have hB3:=hB2.trans (b3.mono hB2.size)
 have hMd:=made_ok B n d rb W3 hn (SrcNums hl2 hB3) (by omega)
 clear hRb b3 hB2
 go_wp2_with (go_at_call 10;refine hMd.mono ?_)
 rintro e W4 ⟨ys,hM2,rfl,b4⟩
 have hB4:=hB3.trans (b4.mono hB3.size)
 clear hMd b4 hl2 hB3
 have hb:=hM2.all
 have hs2:=hM2.size
 have hc2:=hM2.len
 have hz2:(⟨(lns ys).toArray⟩:ByteArray).size=(lns ys).length:=lsize _
 have hd2:(⟨(lns ys).toArray⟩:ByteArray).data.toList=lns ys:=rfl
 clear hM2
 generalize hS2:(⟨(lns ys).toArray⟩:ByteArray)=S2 at *
 obtain ⟨es,fs,p1,p2,p3⟩:=parse_two ha hb (by omega) (by omega)
 have hcat:(S1 ++ ⟨#[10,35,32,97,110,111,116,104,101,114,32,110,111,116,101,10]⟩ ++ S2:ByteArray).data.toList=lns xs ++ (10 :: another ++ 10 :: lns ys):=by
  rw [← HS1.out,← hS2,cat_eq,cat_eq,List.append_assoc]
  rfl
 have hz3:(S1 ++ ⟨#[10,35,32,97,110,111,116,104,101,114,32,110,111,116,101,10]⟩ ++ S2:ByteArray).size<4294960000:=by
  rw [ByteArray.size_append,ByteArray.size_append]
  show S1.size+16+S2.size<_
  omega
 rw [← hcat] at p3
 rw [← hd1] at p1
 rw [← hd2] at p2
 have hP1:=fun W (h:GlN W)=>parse_is S1 W (by omega) h p1
 have hP2:=fun W (h:GlN W)=>parse_is S2 W (by omega) h p2
 have hP3:=fun W (h:GlN W)=>parse_is _ W hz3 h p3
 have k1:S1.size≤20000:=by omega
 have k2:S2.size≤20000:=by omega
 clear p1 p2 p3 hcat hz3 hS2 HS1 hz1 hz2 hd1 hd2 hs1 hs2 hc1 hc2 ha hb
 have g4:=hg.below hB4
 go_wp2_with (go_at_call 20;refine (hP1 _ g4).mono ?_)
 rintro e W5 ⟨b5,A1,c1,ps,hE1,rfl,hps,hl1⟩
 have g5:=g4.below b5
 clear hP1
 go_wp2_with (go_at_call 20;refine (hP2 _ g5).mono ?_)
 rintro e W6 ⟨b6,A2,c2,qs,hE2,rfl,hqs,hl2⟩
 have g6:=g5.below b6
 have hE1:=hE1.below b6
 clear hP2 g4
 go_wp2_with (go_at_call 20;refine (hP3 _ g6).mono ?_)
 rintro e W7 ⟨b7,A3,c3,rs,hE3,rfl,hrs,hl3⟩
 have hE1:=hE1.below b7
 have hE2:=hE2.below b7
 clear hP3 g5 g6
 have hB5:=hB4.trans (b5.mono hB4.size)
 have hB6:=hB5.trans (b6.mono hB5.size)
 have hB7:=hB6.trans (b7.mono hB6.size)
 have hB4s:=hB4.size
 have hB5s:=hB5.size
 clear b5 b6 b7 hB4 hB5 hB6
 go_wp2_with (go_at_call 9;refine (hAw _ hB7).mono ?_)
 rintro e W8 ⟨rfl,b8⟩
 have hE1:=hE1.below b8
 have hE2:=hE2.below b8
 have hE3:=hE3.below b8
 have hB8:=hB7.trans (b8.mono hB7.size)
 clear b8 hB7
 go_wp2_with (at_builtin;refine wpList_wanted (by rfl) (wp_app_evs _ _ rfl W8.heap.size _ 0 [] rfl (World.ownsRow_nil _ _ _ _) (Nat.le_refl _) _ _ ps rfl hE1 (by omega) hl1 ?_))
 intro v1 w1 ho1 bo1
 have hF1:=hE1.below bo1
 have hF2:=hE2.below bo1
 have hF3:=hE3.below bo1
 go_wp2_with (at_builtin;refine wpList_wanted (by rfl) (wp_app_evs _ _ rfl W8.heap.size _ ps.length (pcells ps) rfl ho1 bo1.size _ _ qs rfl hF2 hl1 hl2 ?_))
 intro v2 w2 ho2 bo2
 have bo3:=bo1.trans bo2
 have hG1:=hE1.below bo3
 have hG2:=hE2.below bo3
 have hG3:=hE3.below bo3
 obtain ⟨A5,m5,c5,rfl⟩:=owns_slice ho2
 have hG:EvsOwn w2 w.heap.size (.slice A5 m5 c5) (ps ++ qs):=evs_two hG1 hG2 ho2 hB8.size hB4s hB5s
 obtain ⟨rfl,hR5⟩:=evs_rd hG
 obtain ⟨_,hR3⟩:=evs_rd hG3
 have hsm:=same_events A3 A5 c3 c5 rs (ps ++ qs) w2 (by omega) hR3 hR5
 rw [← hrs,List.map_append,← hps,← hqs,decide_eq_true rfl] at hsm
 have hB9:=hB8.trans (bo3.mono hB8.size)
 clear hG hG1 hG2 hG3 hR3 hR5 hF1 hF2 hF3 hE1 hE2 hE3 ho1 ho2 bo1 bo2 bo3 hB8 hAw hg hps hqs hrs hl1 hl2 hl3 k1 k2
 generalize (ps ++ qs).length=N5 at *
 generalize rs.length=N3 at *
 generalize ps.length=N1 at *
 generalize qs.length=N2 at *
 go_wp2_with (go_at_call 22;refine hsm.mono ?_)
 rintro e w3 ⟨rfl,b3⟩
 have hB:=hB9.trans (b3.mono hB9.size)
 go_wp2
 go_ret
 exact ⟨rfl,hB⟩
end Go.Proofs
