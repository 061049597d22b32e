/- A part of the proof: KG, KAw, KFit, KRound -/
import Derived.Test.YtimfnccfnefajaaGreatDoorChecked
import Derived.KernelRfl
import Derived.Test.YtimfnccfnefajaaGreatDoorVKc
import GoSem.PinnedTables
import Derived.Test.YtimfnccfnefajaaGreatDoorVEvI
set_option linter.unusedSimpArgs false
set_option linter.unusedVariables false
namespace Go.Ev
open Go.Proofs
noncomputable section
def kList (m:Int):List (Nat×AObj):=[
 (2,.cells [.int .i64 m] 3 0 false),
 (0,.cells [.int .i64 (5),.str [80,111,108,105,99,121]] 30 0 false),
 (1,.cells [.int .i64 (5),.str [80,111,108,105,99,121]] 30 0 false),
 (3,.cells [.int .u64 (1),.int .u64 (10),.int .u64 (100),.int .u64 (1000),.int .u64 (10000),.int .u64 (100000),.int .u64 (1000000),.int .u64 (10000000),.int .u64 (100000000),.int .u64 (1000000000),.int .u64 (10000000000),.int .u64 (100000000000),.int .u64 (1000000000000),.int .u64 (10000000000000),.int .u64 (100000000000000),.int .u64 (1000000000000000),.int .u64 (10000000000000000),.int .u64 (100000000000000000),.int .u64 (1000000000000000000),.int .u64 (10000000000000000000)] 551 0 false),
 (4,.cells (lmap (fun n=>.int .u8 (Int.ofNat n)) Go.Pinned.utf8FirstZ) 560 0 false),
 (5,.cells [.int .u8 (128),.int .u8 (191),.int .u8 (160),.int .u8 (191),.int .u8 (128),.int .u8 (159),.int .u8 (144),.int .u8 (191),.int .u8 (128),.int .u8 (143),.int .u8 (0),.int .u8 (0),.int .u8 (0),.int .u8 (0),.int .u8 (0),.int .u8 (0),.int .u8 (0),.int .u8 (0),.int .u8 (0),.int .u8 (0),.int .u8 (0),.int .u8 (0),.int .u8 (0),.int .u8 (0),.int .u8 (0),.int .u8 (0),.int .u8 (0),.int .u8 (0),.int .u8 (0),.int .u8 (0),.int .u8 (0),.int .u8 (0)] 563 0 false),
 (6,.cells [.int .i64 (5),.str [80,111,108,105,99,121]] 30 0 false),
 (9,.cells [.int .i64 (5),.str [80,111,108,105,99,121]] 30 0 false),
 (10,.cells [.int .u8 (0),.int .u8 (1),.int .u8 (28),.int .u8 (2),.int .u8 (29),.int .u8 (14),.int .u8 (24),.int .u8 (3),.int .u8 (30),.int .u8 (22),.int .u8 (20),.int .u8 (15),.int .u8 (25),.int .u8 (17),.int .u8 (4),.int .u8 (8),.int .u8 (31),.int .u8 (27),.int .u8 (13),.int .u8 (23),.int .u8 (21),.int .u8 (19),.int .u8 (16),.int .u8 (7),.int .u8 (26),.int .u8 (12),.int .u8 (18),.int .u8 (6),.int .u8 (11),.int .u8 (5),.int .u8 (10),.int .u8 (9)] 795 0 false),
 (11,.cells [.int .u8 (0),.int .u8 (1),.int .u8 (56),.int .u8 (2),.int .u8 (57),.int .u8 (49),.int .u8 (28),.int .u8 (3),.int .u8 (61),.int .u8 (58),.int .u8 (42),.int .u8 (50),.int .u8 (38),.int .u8 (29),.int .u8 (17),.int .u8 (4),.int .u8 (62),.int .u8 (47),.int .u8 (59),.int .u8 (36),.int .u8 (45),.int .u8 (43),.int .u8 (51),.int .u8 (22),.int .u8 (53),.int .u8 (39),.int .u8 (33),.int .u8 (30),.int .u8 (24),.int .u8 (18),.int .u8 (12),.int .u8 (5),.int .u8 (63),.int .u8 (55),.int .u8 (48),.int .u8 (27),.int .u8 (60),.int .u8 (41),.int .u8 (37),.int .u8 (16),.int .u8 (46),.int .u8 (35),.int .u8 (44),.int .u8 (21),.int .u8 (52),.int .u8 (32),.int .u8 (23),.int .u8 (11),.int .u8 (54),.int .u8 (26),.int .u8 (40),.int .u8 (15),.int .u8 (34),.int .u8 (20),.int .u8 (31),.int .u8 (10),.int .u8 (25),.int .u8 (14),.int .u8 (19),.int .u8 (9),.int .u8 (13),.int .u8 (8),.int .u8 (7),.int .u8 (6)] 796 0 false)
 ]
def kMem (m:Int):Mem:=setAll (kList m)
def isTrue (r:Option Res):Bool:=oelim r false fun r=>@Res.rec (fun _=>Bool) (fun _ _ _=>false) (fun v _=>oelim v.asBool false fun b=>b) r
set_option maxRecDepth 100000
theorem t2 (m:Int):isTrue (ev env 3000 (.call (kMem m) 9 [] { H:=.leaf,k:=12 }))=true:=by kernel_rfl
end
end Go.Ev
namespace Go.Ev
open Go.Proofs
noncomputable section
def ρ0:Ren:=fun n=>⟨n,0,0⟩
def D0:Dom:=fun n=>n<12
def s0:St:={ H:=.leaf,k:=12 }
theorem mem0 {m:Int} {w:World} (hsz:12≤w.heap.size) (hK:∀ n o,(n,o)∈kList m→n<12∧o.inD D0∧Rd Tryz.prog ρ0 w n o):MemOk Tryz.prog ρ0 D0 (kMem m) (fun b=>b<w.heap.size) s0 w where
 dom:=fun n hn=>hn
 own:=fun n o h=>by cases h
 inj:=fun n m o o' h=>by cases h
 rd:=fun n o h=>by
  obtain ⟨h1,h2,h3⟩:=hK n o (setAll_mem _ n o h)
  exact ⟨h1,h2,h3,Nat.lt_of_lt_of_le h1 hsz⟩
 prlt:=fun b hb=>hb
 gl:=fun g hg=>by
  rw [glsz] at hg
  exact ⟨hg,rfl⟩
theorem isTrue_some {r:Option Res} (h:isTrue r=true):∃ s',r=some (.call (.bool true) s'):=by
 cases r with
 | none=>cases h
 | some r =>
  cases r with
  | call v s' =>
   cases v with
   | bool b =>
    have h:b=true:=h
    subst h
    exact ⟨s',rfl⟩
   | _=>cases h
  | _=>cases h
theorem awake_any (hc:∀ (s sub:ByteArray) (m:Int) (w:World),s.size<4294967281→w.cell? ⟨2,0,none⟩=some (.int .i64 m)→Calls Tryz.prog 165 #[.string s,.string sub] w fun e w'=>e=.returned (.int .i64 (Lib.index s.data.toList sub.data.toList))∧w'=w)
 {m:Int} {w:World} (hsz:12≤w.heap.size) (hK:∀ n o,(n,o)∈kList m→n<12∧o.inD D0∧Rd Tryz.prog ρ0 w n o) :
 Calls Tryz.prog 9 #[] w fun e w'=>e=.returned (.bool true)∧Keeps (fun b=>b<w.heap.size) w w':=by
 obtain ⟨s',hs⟩:=isTrue_some (t2 m)
 obtain ⟨v,s2,hv,_,hC⟩:=(ev_ok (envOk hc) 3000).1 _ _ _ _ _ hs
 obtain ⟨rfl,rfl⟩:v=.bool true∧s2=s':=by
  cases hv
  exact ⟨rfl,rfl⟩
 refine (hC ρ0 D0 (fun b=>b<w.heap.size) w (mem0 hsz hK) trivial).mono fun e w' he=>?_
 obtain ⟨val,ρ',D',rfl,hp⟩:=he
 exact ⟨by rw [hp.val];rfl,hp.keeps⟩
end
end Go.Ev
namespace Go.Ev
open Go.Proofs
noncomputable section
set_option maxRecDepth 100000
def kRest:List (Nat×AObj):=@List.rec (Nat×AObj) (fun _=>List (Nat×AObj)) [] (fun _ l _=>l) (kList 0)
def kFits (K:Mem):Bool:=band (bnot (isNoneB (obind (K.get 2) (intObj 3)))) (eqObjs K kRest)
theorem kRest_eq (m:Int):kList m=(2,.cells [.int .i64 m] 3 0 false) :: kRest:=by kernel_rfl
def isAw (f:FuncId) (args:List AV) (K:Mem):Bool:=band (Nat.beq f 9) (band (isNilB args) (kFits K))
def recA (n:Nat):Rec:=fun t=>@Task.rec (fun _=>Option Res) (fun K c fr s=>ev env n (.code K c fr s)) (fun K f args s=>sw (isAw f args K) (some (.call (.bool true) s)) (ev env n (.call K f args s))) (fun K f args s=>ev env n (.dcall K f args s)) t
def plainObj (p:Nat×AObj):Bool:=band (Nat.ble p.1 11) (AObj.el (fun vs _ _ _=>lall (fun v=>bor (bnot (isNoneB v.asInt)) (bnot (isNoneB v.asStr))) vs) (fun _ _=>false) (fun _ _=>false) p.2)
theorem plain_all (m:Int):lall plainObj (kList m)=true:=by kernel_rfl
theorem plain_inD {p:Nat×AObj} (h:plainObj p=true) (D:Dom):p.1<12∧p.2.inD D:=by
 obtain ⟨n,o⟩:=p
 unfold plainObj at h
 rw [band_eq,Bool.and_eq_true,ble_eq,decide_eq_true_eq] at h
 refine ⟨Nat.lt_succ_of_le h.1,?_⟩
 cases o with
 | cells vs e f sh =>
  refine (allIn_iff D vs).2 fun v hv=>?_
  have h2:=(lall_iff _ _).1 (show lall (fun v=>bor (bnot (isNoneB v.asInt)) (bnot (isNoneB v.asStr))) vs=true from h.2) v hv
  cases v <;> first | trivial | cases h2
 | _=>cases h.2
end
end Go.Ev
namespace Go.Ev
open Go.Proofs
noncomputable section
set_option maxRecDepth 100000
variable {ρ ρ':Ren} {D D':Dom} {K:Mem} {Pr:Nat→Prop} {s s':St} {w w':World} {fr:Fr}
end
end Go.Ev
