/- A part of the proof: T2, T3, Ga, Gb, Gc, Gd, Ge, Gh -/
import Derived.Test.YtimfnccfnefajaaGreatDoorProg
import Derived.WalkKit
import Derived.BigCall
import Derived.Deep.QuietTactic
import Derived.BigQuiet
import Derived.Test.YtimfnccfnefajaaGreatDoorVWb
import Derived.Test.YtimfnccfnefajaaGreatDoorVWc
import Derived.Lib.Hide
import Derived.IntWalk
import Derived.ChangeKeysEq
set_option linter.unusedSimpArgs false
set_option linter.unusedVariables false
namespace Go.Proofs
open Go.RowKit Go.Sp
def lowI (c:Int):Int:=if 65≤c∧c≤90 then c+32 else c
set_option maxHeartbeats 400000 in
theorem lower_ok (c:Int) (w:World) (h0:0≤c) (h1:c<256):Calls Tryz.prog 166 #[.int .u8 c] w fun e w'=>e=.returned (.int .u8 (lowI c))∧w'=w:=by
 unfold lowI
 go_enter Tryz.func166,Tryz.ntmps166
 by_cases ha:65≤c <;> by_cases hb:c≤90
 all_goals go_wp2
 all_goals go_ret
 all_goals simp_all
theorem lower_byte (c:UInt8) (w:World):Calls Tryz.prog 166 #[.int .u8 (c.toNat:Int)] w fun e w'=>e=.returned (.int .u8 ((low c).toNat:Int))∧w'=w:=by
 have h:=lower_ok (c.toNat:Int) w (by omega) (by have:=c.toNat_lt;omega)
 refine h.mono fun e w' he=>⟨?_,he.2⟩
 rw [he.1]
 congr 2
 unfold lowI low
 by_cases hc:65≤c∧c≤90
 ·have h2:(65:Int)≤(c.toNat:Int)∧(c.toNat:Int)≤90:=by
   rw [UInt8.le_iff_toNat_le,UInt8.le_iff_toNat_le] at hc
   simp at hc
   omega
  rw [if_pos hc,if_pos h2,UInt8.toNat_add]
  have:c.toNat+32<256:=by omega
  simp
  omega
 ·have h2:¬ ((65:Int)≤(c.toNat:Int)∧(c.toNat:Int)≤90):=by
   rw [UInt8.le_iff_toNat_le,UInt8.le_iff_toNat_le] at hc
   simp at hc
   omega
  rw [if_neg hc,if_neg h2]
end Go.Proofs
namespace Go.Proofs
open Go.RowKit Go.Sp
def sameFrom (a b:ByteArray) (k:Nat):Bool:=(a.data.toList.drop k).map low == (b.data.toList.drop k).map low
theorem sameFrom_end (a b:ByteArray) (k:Nat) (h:a.size≤k) (hb:b.size=a.size):sameFrom a b k=true:=by
 unfold sameFrom
 rw [List.drop_of_length_le (by simpa using h),List.drop_of_length_le (by have:=hb;simp;omega)]
 rfl
theorem sameFrom_step (a b:ByteArray) (k:Nat) (h:k<a.size) (hb:k<b.size):sameFrom a b k=(low a[k] == low b[k] && sameFrom a b (k+1)):=by
 unfold sameFrom
 have e1:a.data.toList.drop k=a[k] :: a.data.toList.drop (k+1):=List.drop_eq_getElem_cons (by simpa using h)
 have e2:b.data.toList.drop k=b[k] :: b.data.toList.drop (k+1):=List.drop_eq_getElem_cons (by simpa using hb)
 rw [e1,e2,List.map_cons,List.map_cons]
 rfl
set_option maxHeartbeats 1000000 in
theorem same_ok (a b:ByteArray) (w:World) (ha:a.size≤maxLen) (_hb:b.size≤maxLen):Calls Tryz.prog 103 #[.string a,.string b] w (RetB (.bool (decide (a.size=b.size) && sameFrom a b 0)) w):=by
 unfold maxLen at ha
 by_cases hab:a.size=b.size
 ·have hd:decide (a.size=b.size)=true:=by simp [hab]
  go_enter Tryz.func103,Tryz.ntmps103
  go_wp2
  go_loopw [5] (fun i wr=>∃ k:Nat,k≤a.size∧i=.int .i64 k∧Below w.heap.size w wr∧sameFrom a b 0=sameFrom a b k) (fun i _=>a.size - (intOf i).toNat)
  case atStart=>exact ⟨0,Nat.zero_le _,rfl,Below.refl _ _,rfl⟩
  case round =>
   obtain ⟨k,hk,rfl,hW,hs⟩:=hrel
   have HS:=Lib.hid hs;clear hs
   by_cases hlt:k<a.size
   ·have hltb:k<b.size:=by omega
    have hst:=sameFrom_step a b k hlt hltb
    have HST:=Lib.hid hst;clear hst
    by_cases hc:low a[k]=low b[k]
    ·have hc1:(((low a[k]).toNat:Int) != ((low b[k]).toNat:Int))=false:=by simp [hc]
     go_wp2_with fail
     go_quiet ((go_at_call 166;exact Calls.quiet_of_same (lower_byte _ _)))
     go_wp2
     go_roundw
     case rel=>exact ⟨k+1,by omega,by go_num,below_drewN hW _,by rw [HS.out,HST.out];simp [hc]⟩
     case measure=>simp [intOf];omega
    ·have hc1:(((low a[k]).toNat:Int) != ((low b[k]).toNat:Int))=true:=by
      simp
      intro h
      exact hc (UInt8.toNat_inj.1 (by omega))
     go_wp2_with fail
     go_quiet ((go_at_call 166;exact Calls.quiet_of_same (lower_byte _ _)))
     go_wp2
     go_ret
     exact ⟨by rw [HS.out,HST.out];simp [hc],below_drewN hW _⟩
   ·go_wp2
    go_ret
    exact ⟨by rw [HS.out,sameFrom_end a b k (by omega) (by omega)];simp [hab],hW⟩
 ·have hd:decide (a.size=b.size)=false:=by simp [hab]
  go_enter Tryz.func103,Tryz.ntmps103
  go_wp2
  go_ret
  exact ⟨by simp [hab],Below.refl _ _⟩
end Go.Proofs
namespace Go.Proofs
open Go.RowKit Go.Sp
def rnd (v:Int) (n:Nat):Nat:=(if v.tmod n<0 then v.tmod n+n else v.tmod n).toNat
theorem tmod_lt (v:Int) {n:Nat} (hn:0<n):(v.tmod n).natAbs<n:=by
 rw [Int.natAbs_tmod,Int.natAbs_natCast]
 exact Nat.mod_lt _ hn
theorem rnd_lt (v:Int) {n:Nat} (hn:0<n):rnd v n<n:=by
 have:=tmod_lt v hn
 unfold rnd
 split <;> omega
set_option maxRecDepth 100000 in
set_option maxHeartbeats 4000000 in
theorem round_k (v:Int) (n:Nat) (w:World) (hn:0<n) (hn2:n≤2147483648):Calls Tryz.prog 11 #[.int .i64 v,.int .i64 n] w (fun e w'=>e=.returned (.int .i64 (rnd v n))∧w'=w):=by
 have hne:¬ (n:Int)=0:=by omega
 have hlt:=tmod_lt v hn
 by_cases hm:v.tmod n<0
 ·have hw2:v.tmod n+n=(rnd v n:Nat):=by unfold rnd;rw [if_pos hm];omega
  have HW:=Lib.hid hw2
  clear hw2
  go_enter Tryz.func11,Tryz.ntmps11
  go_wp2
  go_ret
  exact ⟨congrArg (fun x=>Ending.returned (Value.int .i64 x)) HW.out,rfl⟩
 ·have hw2:v.tmod n=(rnd v n:Nat):=by unfold rnd;rw [if_neg hm];omega
  have HW:=Lib.hid hw2
  clear hw2
  go_enter Tryz.func11,Tryz.ntmps11
  go_wp2
  go_ret
  exact ⟨congrArg (fun x=>Ending.returned (Value.int .i64 x)) HW.out,rfl⟩
end Go.Proofs
namespace Go.Proofs
open Go.RowKit Go.Sp
structure KeepB (b:Nat) (w w':World):Prop where
 size:w.heap.size≤w'.heap.size
 block:∀ j,j<w.heap.size→j≠b→w'.heap[j]? = w.heap[j]?
theorem KeepB.refl (b:Nat) (w:World):KeepB b w w:=⟨Nat.le_refl _,fun _ _ _=>rfl⟩
theorem KeepB.trans {b:Nat} {w w1 w2:World} (h:KeepB b w w1) (k:KeepB b w1 w2):KeepB b w w2:=⟨Nat.le_trans h.size k.size,fun j hj hn=>(k.block j (Nat.lt_of_lt_of_le hj h.size) hn).trans (h.block j hj hn)⟩
theorem KeepB.of (b:Nat) {w w':World} (x:Below w.heap.size w w'):KeepB b w w':=⟨x.size,fun j hj _=>x.block j hj⟩
theorem KeepB.set {b:Nat} {w w':World} (h:KeepB b w w') (i:Nat) (v:Value):KeepB b w (w'.setCell ⟨b,i,none⟩ v) :=
 ⟨by simpa using h.size,fun j hj hn=>(Below.heap_setCell _ _ _ _ hn).trans (h.block j hj hn)⟩
def Nums (w:World) (sb:Nat) (A:Option Addr) (m:Nat):Prop:=∀ j,j<m→∃ (a:Addr) (v:Int),A=some a∧a.block<sb∧w.cell? (a.add j)=some (.int .i64 v) ∧ -9223372036854775808≤v∧v≤9223372036854775807
structure Src (w:World) (sb:Nat) (A:Option Addr) (m c k:Nat) (s:Int):Prop where
 c0:w.cell? ⟨sb,0,none⟩=some (.slice A m c)
 c1:w.cell? ⟨sb,1,none⟩=some (.int .i64 k)
 c2:w.cell? ⟨sb,2,none⟩=some (.int .u64 s)
 fr:∀ j,j<3→w.frozen? ⟨sb,j,none⟩=false
 lt:sb<w.heap.size
 km:k≤m
 mx:m≤9223372036854775807
 s0:0≤s
 s1:s≤18446744073709551615
 nums:Nums w sb A m
def SrcOk (w:World) (sb:Nat):Prop:=∃ A m c k s,Src w sb A m c k s
theorem add_block (a:Addr) (j:Nat):(a.add j).block=a.block:=by
 unfold Addr.add
 split <;> rfl
theorem cell_block {w w':World} {p:Addr} (h:w'.heap[p.block]? = w.heap[p.block]?):w'.cell? p=w.cell? p:=by
 unfold World.cell?
 rw [h]
theorem frozen_block {w w':World} {p:Addr} (h:w'.heap[p.block]? = w.heap[p.block]?):w'.frozen? p=w.frozen? p:=by
 unfold World.frozen?
 rw [h]
theorem Nums.keep {w w':World} {sb:Nat} {A:Option Addr} {m:Nat} (h:Nums w sb A m) (k:∀ j,j<sb→w'.heap[j]? = w.heap[j]?):Nums w' sb A m:=fun j hj=>by
 obtain ⟨a,v,h1,h2,h4,h5⟩:=h j hj
 exact ⟨a,v,h1,h2,(cell_block (by rw [add_block];exact k _ h2)).trans h4,h5⟩
theorem Src.below {w w':World} {sb:Nat} {A:Option Addr} {m c k:Nat} {s:Int} (h:Src w sb A m c k s) {B:Nat} (hB:sb<B) (x:Below B w w'):Src w' sb A m c k s :=
 ⟨(x.cell (p:=⟨sb,0,none⟩) hB).trans h.c0,(x.cell (p:=⟨sb,1,none⟩) hB).trans h.c1,(x.cell (p:=⟨sb,2,none⟩) hB).trans h.c2,fun j hj=>(x.frozen (p:=⟨sb,j,none⟩) hB).trans (h.fr j hj),Nat.lt_of_lt_of_le h.lt x.size,h.km,h.mx,h.s0,h.s1,h.nums.keep fun j hj=>x.block j (Nat.lt_trans hj hB)⟩
theorem Src.setK {w:World} {sb:Nat} {A:Option Addr} {m c k:Nat} {s:Int} (h:Src w sb A m c k s) {k':Nat} (hk:k'≤m):Src (w.setCell ⟨sb,1,none⟩ (.int .i64 k')) sb A m c k' s :=
 ⟨(World.cell?_setCell_other _ ⟨sb,1,none⟩ ⟨sb,0,none⟩ _ (by simp)).trans h.c0,World.cell?_setCell_same _ _ _ h.c1,(World.cell?_setCell_other _ ⟨sb,1,none⟩ ⟨sb,2,none⟩ _ (by simp)).trans h.c2,fun j hj=>(World.frozen?_setCell _ _ _ _).trans (h.fr j hj),by simpa using h.lt,hk,h.mx,h.s0,h.s1,h.nums.keep fun j hj=>Below.heap_setCell _ _ _ _ (Nat.ne_of_lt hj)⟩
theorem Src.setS {w:World} {sb:Nat} {A:Option Addr} {m c k:Nat} {s:Int} (h:Src w sb A m c k s) {t:Int} (h0:0≤t) (h1:t≤18446744073709551615):Src (w.setCell ⟨sb,2,none⟩ (.int .u64 t)) sb A m c k t :=
 ⟨(World.cell?_setCell_other _ ⟨sb,2,none⟩ ⟨sb,0,none⟩ _ (by simp)).trans h.c0,(World.cell?_setCell_other _ ⟨sb,2,none⟩ ⟨sb,1,none⟩ _ (by simp)).trans h.c1,World.cell?_setCell_same _ _ _ h.c2,fun j hj=>(World.frozen?_setCell _ _ _ _).trans (h.fr j hj),by simpa using h.lt,h.km,h.mx,h0,h1,h.nums.keep fun j hj=>Below.heap_setCell _ _ _ _ (Nat.ne_of_lt hj)⟩
theorem SrcOk.lt {w:World} {sb:Nat} (h:SrcOk w sb):sb<w.heap.size:=by
 obtain ⟨A,m,c,k,s,h⟩:=h
 exact h.lt
structure GK (sb:Nat) (w w':World):Prop where
 lt:sb<w.heap.size
 below:Below sb w w'
 keep:KeepB sb w w'
 src:SrcOk w' sb
theorem GK.refl {sb:Nat} {w:World} (h:SrcOk w sb):GK sb w w:=⟨h.lt,Below.refl _ _,KeepB.refl _ _,h⟩
theorem GK.trans {sb:Nat} {w w1 w2:World} (h:GK sb w w1) (k:GK sb w1 w2):GK sb w w2:=⟨h.lt,h.below.trans k.below,h.keep.trans k.keep,k.src⟩
theorem SrcOk.below {w w':World} {sb:Nat} (h:SrcOk w sb) (x:Below w.heap.size w w'):SrcOk w' sb:=by
 obtain ⟨A,m,c,k,s,h⟩:=h
 exact ⟨A,m,c,k,s,h.below h.lt x⟩
theorem GK.of {sb:Nat} {w w':World} (h:SrcOk w sb) (x:Below w.heap.size w w'):GK sb w w':=⟨h.lt,x.mono (Nat.le_of_lt h.lt),KeepB.of sb x,h.below x⟩
theorem SrcOk.store {w:World} {sb:Nat} (h:SrcOk w sb) {b:Nat} (hb:sb<b) (i:Nat) (v:Value):SrcOk (w.setCell ⟨b,i,none⟩ v) sb:=by
 obtain ⟨A,m,c,k,s,h⟩:=h
 exact ⟨A,m,c,k,s,h.below hb ((Below.refl b w).setCell (p:=⟨b,i,none⟩) (Nat.le_refl _) v)⟩
theorem GK.store {sb:Nat} {w w1:World} (h:GK sb w w1) {b:Nat} (hb:w.heap.size≤b) (i:Nat) (v:Value):GK sb w (w1.setCell ⟨b,i,none⟩ v) :=
 ⟨h.lt,h.below.trans (((Below.refl b w1).setCell (p:=⟨b,i,none⟩) (Nat.le_refl _) v).mono (Nat.le_trans (Nat.le_of_lt h.lt) hb)),⟨by simpa using h.keep.size,fun j hj hn=>(Below.heap_setCell _ _ _ _ (by show j≠b;omega)).trans (h.keep.block j hj hn)⟩,h.src.store (Nat.lt_of_lt_of_le h.lt hb) i v⟩
theorem GK.alloc {sb:Nat} {w w1:World} (h:GK sb w w1) (o:Obj):GK sb w (w1.alloc o):=h.trans (GK.of h.src ((Below.refl _ w1).alloc (Nat.le_refl _) o))
theorem GK.cell {sb:Nat} {w w1:World} (h:GK sb w w1) {b:Nat} (hb:b<w.heap.size) (hn:b≠sb) (i:Nat):w1.cell? ⟨b,i,none⟩=w.cell? ⟨b,i,none⟩:=cell_block (h.keep.block b hb hn)
theorem GK.frozen {sb:Nat} {w w1:World} (h:GK sb w w1) {b:Nat} (hb:b<w.heap.size) (hn:b≠sb) (i:Nat):w1.frozen? ⟨b,i,none⟩=w.frozen? ⟨b,i,none⟩:=frozen_block (h.keep.block b hb hn)
theorem GK.step {sb:Nat} {w w1 w2:World} (h:GK sb w w1) (x:Below w1.heap.size w1 w2):GK sb w w2:=h.trans (GK.of h.src x)
def RetN (n sb:Nat) (w:World) (e:Ending) (w':World):Prop:=∃ k:Nat,k<n∧e=.returned (.int .i64 k)∧GK sb w w'
theorem u64_rng (x:Int):0≤IntKind.u64.wrap x∧IntKind.u64.wrap x≤18446744073709551615:=by rw [IntKind.wrap_u64];omega
theorem Src.drewN {w:World} {sb:Nat} {A:Option Addr} {m c k:Nat} {s:Int} (h:Src w sb A m c k s) (n:Nat):Src (w.drewN n) sb A m c k s:=⟨h.c0,h.c1,h.c2,h.fr,h.lt,h.km,h.mx,h.s0,h.s1,h.nums⟩
theorem GK.setK {w:World} {sb:Nat} {A:Option Addr} {m c k:Nat} {s:Int} (h:Src w sb A m c k s) {k':Nat} (hk:k'≤m):GK sb w (w.setCell ⟨sb,1,none⟩ (.int .i64 k')).drew :=
 ⟨h.lt,((Below.refl sb w).setCell (p:=⟨sb,1,none⟩) (Nat.le_refl _) _).drew,let q:=(KeepB.refl sb w).set 1 (.int .i64 k');⟨q.size,q.block⟩,⟨_,_,_,_,_,(h.setK hk).drewN 1⟩⟩
theorem GK.setS {w:World} {sb:Nat} {A:Option Addr} {m c k:Nat} {s:Int} (h:Src w sb A m c k s) {t:Int} (h0:0≤t) (h1:t≤18446744073709551615):GK sb w (w.setCell ⟨sb,2,none⟩ (.int .u64 t)) :=
 ⟨h.lt,(Below.refl sb w).setCell (p:=⟨sb,2,none⟩) (Nat.le_refl _) _,(KeepB.refl sb w).set 2 _,⟨_,_,_,_,_,h.setS h0 h1⟩⟩
theorem GK.drewN {sb:Nat} {w w1:World} (h:GK sb w w1) (n:Nat):GK sb w (w1.drewN n):=by
 obtain ⟨l,b,k,A,m,c,i,s,q⟩:=h
 exact ⟨l,below_drewN b n,⟨k.size,k.block⟩,A,m,c,i,s,q.drewN n⟩
set_option maxRecDepth 100000 in
set_option maxHeartbeats 4000000 in
theorem next_ok (n sb:Nat) (w:World) (hn:0<n) (hn2:n≤2147483648) (h:SrcOk w sb):Calls Tryz.prog 28 #[.pointer (some ⟨sb,0,none⟩),.int .i64 n] w (RetN n sb w):=by
 obtain ⟨A,m,c,k,s,h⟩:=h
 have c0:=h.c0
 have c1:=h.c1
 have c2:=h.c2
 have f1:=h.fr 1 (by decide)
 have f2:=h.fr 2 (by decide)
 by_cases hk:k<m
 ·obtain ⟨a,v,rfl,hab,hcell,hv0,hv1⟩:=h.nums k hk
  have hs:=(h.setK (k':=k+1) (by omega)).drewN 1
  have hG:=GK.setK h (k':=k+1) (by omega)
  have hcell2:((w.setCell ⟨sb,1,none⟩ (.int .i64 ((k+1:Nat):Int))).drewN 1).cell? (a.add k)=some (.int .i64 v):=(World.cell?_setCell_other _ ⟨sb,1,none⟩ _ _ (fun e=>Nat.ne_of_lt hab (by rw [← add_block a k,← e]))).trans hcell
  have hmx:=h.mx
  have hR:=fun W=>round_k v n W hn hn2
  clear h
  rw [show ((k+1:Nat):Int)=(k:Int)+1 from rfl] at hs hG hcell2
  go_enter Tryz.func28,Tryz.ntmps28
  go_wp2
  go_region
  go_wp2
  change Src ((w.setCell ⟨sb,1,none⟩ (.int .i64 ((k:Int)+1))).drew) _ _ _ _ _ _ at hs
  change ((w.setCell ⟨sb,1,none⟩ (.int .i64 ((k:Int)+1))).drew).cell? _=_ at hcell2
  generalize (w.setCell ⟨sb,1,none⟩ (.int .i64 ((k:Int)+1))).drew=W at *
  clear c0 c1 c2 f1 f2 hcell
  have c0:=hs.c0
  have c1:=hs.c1
  rw [show ((k+1:Nat):Int)=(k:Int)+1 from rfl] at c1
  have hsub:wrap64 ((k:Int)+1 - 1)=k:=by rw [IntWalk.wrap64_in _ ⟨by omega,by omega⟩];omega
  go_quiet ((go_at_call 11;exact Calls.quiet_of_same (hR _)))
  go_wp2
  go_ret
  exact ⟨_,rnd_lt v hn,rfl,hG.drewN nq⟩
 ·go_enter Tryz.func28,Tryz.ntmps28
  go_wp2
  go_region
  go_wp2
  go_ret
  have hu:=u64_rng (IntKind.u64.wrap (s * 6364136223846793005)+1442695040888963407)
  have hG:=(GK.setS h hu.1 hu.2).drewN 1
  change GK sb w (w.setCell _ _).drew at hG
  generalize IntKind.u64.wrap (IntKind.u64.wrap (s * 6364136223846793005)+1442695040888963407)=u at *
  obtain ⟨x,hx⟩:∃ x:Nat,u / 8589934592=(x:Int):=⟨(u / 8589934592).toNat,by omega⟩
  refine ⟨x % n,Nat.mod_lt _ hn,?_,hG⟩
  show Ending.returned (.int .i64 (wrap64 ((u / 8589934592).tmod n)))=_
  rw [hx,← Int.ofNat_tmod,IntWalk.wrap64_in _ (by have:=Nat.mod_lt x hn;omega)]
end Go.Proofs
namespace Go.Proofs
open Go.RowKit Go.Sp
def RetS (n sb:Nat) (w:World) (e:Ending) (w':World):Prop:=∃ s:Bs,s.length≤n∧e=.returned (.string ⟨s.toArray⟩)∧GK sb w w'
theorem idx_one {t e:TypeId} {n:Nat} (hu:Tryz.prog.underlying t=some (.array n e)) (hp:Tryz.prog.plainKey e=true) (hi:(Tryz.prog.info? e).isSome=true) (hc:Tryz.prog.cellsOf e=1) {cs:Array Value} {k:Nat} {v:Value} (hk:k<n) (hv:cs[k]? = some v) (W:World) :
 (Instr.index t (.agg cs) (.int .i64 k)).run Tryz.prog W=.ok v W:=by
 obtain ⟨i,hi⟩:=Option.isSome_iff_exists.1 hi
 have h1:=run_part_plain (w:=W) hp hv
 have h2:=run_sizeOf W hi
 rw [hc] at h2
 have hb:0≤(k:Int)∧(k:Int)<(n:Int):=by omega
 simp [Instr.index,run_underlying hu,asIntOf,hb,h2,go_sem]
 rw [if_pos hk]
 simpa [part,go_sem] using h1
theorem str_at {l:List Value} {k:Nat} (hl:∀ v∈l,∃ s:Bs,s.length≤40∧v=.string ⟨s.toArray⟩) (hk:k<l.length):∃ s:Bs,s.length≤40∧l.toArray[k]? = some (.string ⟨s.toArray⟩):=by
 obtain ⟨s,h1,h2⟩:=hl _ (List.getElem_mem hk)
 exact ⟨s,h1,by rw [List.getElem?_toArray,List.getElem?_eq_getElem hk,h2]⟩
theorem u131:Tryz.prog.underlying 131=some (.array 5 9):=by kernel_rfl
theorem u132:Tryz.prog.underlying 132=some (.array 3 9):=by kernel_rfl
theorem u175:Tryz.prog.underlying 175=some (.array 28 9):=by kernel_rfl
theorem u58:Tryz.prog.underlying 58=some (.array 4 9):=by kernel_rfl
theorem u71:Tryz.prog.underlying 71=some (.array 30 3):=by kernel_rfl
theorem p9:Tryz.prog.plainKey 9=true:=by kernel_rfl
theorem i9:(Tryz.prog.info? 9).isSome=true:=by kernel_rfl
theorem c9:Tryz.prog.cellsOf 9=1:=by kernel_rfl
theorem p3:Tryz.prog.plainKey 3=true:=by kernel_rfl
theorem i3:(Tryz.prog.info? 3).isSome=true:=by kernel_rfl
theorem c3:Tryz.prog.cellsOf 3=1:=by kernel_rfl
theorem user_ok_at {k:Nat} (hk:k<5):∃ s:Bs,s.length≤40∧∀ W,(Instr.index 131 (.agg #[.string ⟨#[97,110,110]⟩,.string ⟨#[98,111,98]⟩,.string ⟨#[]⟩,.string ⟨#[99,121]⟩,.string ⟨#[97,110,110]⟩]) (.int .i64 k)).run Tryz.prog W=.ok (.string ⟨s.toArray⟩) W:=by
 obtain ⟨s,h1,h2⟩:=str_at (l:=[.string ⟨#[97,110,110]⟩,.string ⟨#[98,111,98]⟩,.string ⟨#[]⟩,.string ⟨#[99,121]⟩,.string ⟨#[97,110,110]⟩]) (k:=k) (by
  intro v hv
  simp only [List.mem_cons,List.not_mem_nil,or_false] at hv
  rcases hv with rfl | rfl | rfl | rfl | rfl <;> exact ⟨_,by decide,rfl⟩) hk
 exact ⟨s,h1,idx_one u131 p9 i9 c9 hk h2⟩
set_option maxRecDepth 100000 in
set_option maxHeartbeats 4000000 in
theorem user_ok (sb:Nat) (w:World) (h:SrcOk w sb):Calls Tryz.prog 30 #[.pointer (some ⟨sb,0,none⟩)] w (RetS 40 sb w):=by
 have hN:=next_ok 5 sb w (by decide) (by decide) h
 clear h
 go_enter Tryz.func30,Tryz.ntmps30
 go_wp2_with (go_at_call 28;refine hN.mono ?_)
 rintro e W ⟨k,hk,rfl,hG⟩
 have hx:=user_ok_at hk
 obtain ⟨s,hs,hx⟩:=hx
 go_wp2
 go_ret
 exact ⟨s,hs,rfl,hG⟩
theorem note_ok_at {k:Nat} (hk:k<3):∃ s:Bs,s.length≤40∧∀ W,(Instr.index 132 (.agg #[.string ⟨#[]⟩,.string ⟨#[110,111,116,101]⟩,.string ⟨#[97,95,98,32,126]⟩]) (.int .i64 k)).run Tryz.prog W=.ok (.string ⟨s.toArray⟩) W:=by
 obtain ⟨s,h1,h2⟩:=str_at (l:=[.string ⟨#[]⟩,.string ⟨#[110,111,116,101]⟩,.string ⟨#[97,95,98,32,126]⟩]) (k:=k) (by
  intro v hv
  simp only [List.mem_cons,List.not_mem_nil,or_false] at hv
  rcases hv with rfl | rfl | rfl <;> exact ⟨_,by decide,rfl⟩) hk
 exact ⟨s,h1,idx_one u132 p9 i9 c9 hk h2⟩
set_option maxRecDepth 100000 in
set_option maxHeartbeats 4000000 in
theorem note_ok (sb:Nat) (w:World) (h:SrcOk w sb):Calls Tryz.prog 33 #[.pointer (some ⟨sb,0,none⟩)] w (RetS 40 sb w):=by
 have hN:=next_ok 3 sb w (by decide) (by decide) h
 clear h
 go_enter Tryz.func33,Tryz.ntmps33
 go_wp2_with (go_at_call 28;refine hN.mono ?_)
 rintro e W ⟨k,hk,rfl,hG⟩
 have hx:=note_ok_at hk
 obtain ⟨s,hs,hx⟩:=hx
 go_wp2
 go_ret
 exact ⟨s,hs,rfl,hG⟩
theorem piece_ok_at {k:Nat} (hk:k<28):∃ s:Bs,s.length≤40∧∀ W,(Instr.index 175 (.agg #[.string ⟨#[112,108,97,105,110,32,119,111,114,100,115,32]⟩,.string ⟨#[91,91,65,93,93,32]⟩,.string ⟨#[91,91,66,124,98,101,101,93,93,32]⟩,.string ⟨#[91,91,67,97,116,101,103,111,114,121,58,88,93,93]⟩,.string ⟨#[91,91,67,97,116,101,103,111,114,121,58,88,124,107,93,93]⟩,.string ⟨#[91,91,67,97,116,101,103,111,114,121,58,89,93,93]⟩,.string ⟨#[123,123,116,124,49,125,125]⟩,.string ⟨#[123,123,58,66,125,125,32]⟩,.string ⟨#[123,123,58,65,47,67,125,125]⟩,.string ⟨#[123,123,35,105,102,101,120,105,115,116,58,66,124,121,101,115,124,110,111,125,125,32]⟩,.string ⟨#[123,123,35,105,102,101,120,105,115,116,58,68,124,121,101,115,124,110,111,125,125]⟩,.string ⟨#[123,123,35,109,101,109,98,101,114,115,58,88,125,125,32]⟩,.string ⟨#[123,123,35,100,97,116,101,58,89,45,109,45,100,125,125,32]⟩,.string ⟨#[123,123,35,100,97,116,101,58,72,58,105,125,125,32]⟩,.string ⟨#[123,123,35,114,105,103,104,116,58,101,100,105,116,124,65,124,101,124,110,125,125,32]⟩,.string ⟨#[123,123,35,114,101,118,105,115,105,111,110,58,65,125,125,32]⟩,.string ⟨#[10,61,61,32,83,32,61,61,10,98,111,100,121,10]⟩,.string ⟨#[10,61,61,32,82,32,61,61,10,114,101,115,116,10]⟩,.string ⟨#[60,110,111,105,110,99,108,117,100,101,62,123,123,116,125,125,60,47,110,111,105,110,99,108,117,100,101,62]⟩,.string ⟨#[60,105,110,99,108,117,100,101,111,110,108,121,62,91,91,68,93,93,60,47,105,110,99,108,117,100,101,111,110,108,121,62]⟩,.string ⟨#[123,123,123,49,124,100,125,125,125,32]⟩,.string ⟨#[10,42,32,105,116,101,109,10]⟩,.string ⟨#[115,101,99,114,101,116,32]⟩,.string ⟨#[91,91,84,101,109,112,108,97,116,101,58,84,93,93]⟩,.string ⟨#[123,123,58,67,97,116,101,103,111,114,121,58,89,125,125]⟩,.string ⟨#[119,111,114,100,115,32,91,91,68,93,93,32,119,111,114,100,115]⟩,.string ⟨#[39,39,120,39,39,32]⟩,.string ⟨#[123,123,35,109,101,109,98,101,114,115,58,89,125,125]⟩]) (.int .i64 k)).run Tryz.prog W=.ok (.string ⟨s.toArray⟩) W:=by
 obtain ⟨s,h1,h2⟩:=str_at (l:=[.string ⟨#[112,108,97,105,110,32,119,111,114,100,115,32]⟩,.string ⟨#[91,91,65,93,93,32]⟩,.string ⟨#[91,91,66,124,98,101,101,93,93,32]⟩,.string ⟨#[91,91,67,97,116,101,103,111,114,121,58,88,93,93]⟩,.string ⟨#[91,91,67,97,116,101,103,111,114,121,58,88,124,107,93,93]⟩,.string ⟨#[91,91,67,97,116,101,103,111,114,121,58,89,93,93]⟩,.string ⟨#[123,123,116,124,49,125,125]⟩,.string ⟨#[123,123,58,66,125,125,32]⟩,.string ⟨#[123,123,58,65,47,67,125,125]⟩,.string ⟨#[123,123,35,105,102,101,120,105,115,116,58,66,124,121,101,115,124,110,111,125,125,32]⟩,.string ⟨#[123,123,35,105,102,101,120,105,115,116,58,68,124,121,101,115,124,110,111,125,125]⟩,.string ⟨#[123,123,35,109,101,109,98,101,114,115,58,88,125,125,32]⟩,.string ⟨#[123,123,35,100,97,116,101,58,89,45,109,45,100,125,125,32]⟩,.string ⟨#[123,123,35,100,97,116,101,58,72,58,105,125,125,32]⟩,.string ⟨#[123,123,35,114,105,103,104,116,58,101,100,105,116,124,65,124,101,124,110,125,125,32]⟩,.string ⟨#[123,123,35,114,101,118,105,115,105,111,110,58,65,125,125,32]⟩,.string ⟨#[10,61,61,32,83,32,61,61,10,98,111,100,121,10]⟩,.string ⟨#[10,61,61,32,82,32,61,61,10,114,101,115,116,10]⟩,.string ⟨#[60,110,111,105,110,99,108,117,100,101,62,123,123,116,125,125,60,47,110,111,105,110,99,108,117,100,101,62]⟩,.string ⟨#[60,105,110,99,108,117,100,101,111,110,108,121,62,91,91,68,93,93,60,47,105,110,99,108,117,100,101,111,110,108,121,62]⟩,.string ⟨#[123,123,123,49,124,100,125,125,125,32]⟩,.string ⟨#[10,42,32,105,116,101,109,10]⟩,.string ⟨#[115,101,99,114,101,116,32]⟩,.string ⟨#[91,91,84,101,109,112,108,97,116,101,58,84,93,93]⟩,.string ⟨#[123,123,58,67,97,116,101,103,111,114,121,58,89,125,125]⟩,.string ⟨#[119,111,114,100,115,32,91,91,68,93,93,32,119,111,114,100,115]⟩,.string ⟨#[39,39,120,39,39,32]⟩,.string ⟨#[123,123,35,109,101,109,98,101,114,115,58,89,125,125]⟩]) (k:=k) (by
  intro v hv
  simp only [List.mem_cons,List.not_mem_nil,or_false] at hv
  rcases hv with rfl | rfl | rfl | rfl | rfl | rfl | rfl | rfl | rfl | rfl | rfl | rfl | rfl | rfl | rfl | rfl | rfl | rfl | rfl | rfl | rfl | rfl | rfl | rfl | rfl | rfl | rfl | rfl <;> exact ⟨_,by decide,rfl⟩) hk
 exact ⟨s,h1,idx_one u175 p9 i9 c9 hk h2⟩
set_option maxRecDepth 100000 in
set_option maxHeartbeats 4000000 in
theorem piece_ok (sb:Nat) (w:World) (h:SrcOk w sb):Calls Tryz.prog 56 #[.pointer (some ⟨sb,0,none⟩)] w (RetS 40 sb w):=by
 have hN:=next_ok 28 sb w (by decide) (by decide) h
 clear h
 go_enter Tryz.func56,Tryz.ntmps56
 go_wp2_with (go_at_call 28;refine hN.mono ?_)
 rintro e W ⟨k,hk,rfl,hG⟩
 have hx:=piece_ok_at hk
 obtain ⟨s,hs,hx⟩:=hx
 go_wp2
 go_ret
 exact ⟨s,hs,rfl,hG⟩
theorem redir_at {k:Nat} (hk:k<3):∃ s:Bs,s.length≤40∧∀ W,(Instr.index 132 (.agg #[.string ⟨#[66]⟩,.string ⟨#[65]⟩,.string ⟨#[84,101,109,112,108,97,116,101,58,84]⟩]) (.int .i64 k)).run Tryz.prog W=.ok (.string ⟨s.toArray⟩) W:=by
 obtain ⟨s,h1,h2⟩:=str_at (l:=[.string ⟨#[66]⟩,.string ⟨#[65]⟩,.string ⟨#[84,101,109,112,108,97,116,101,58,84]⟩]) (k:=k) (by
  intro v hv
  simp only [List.mem_cons,List.not_mem_nil,or_false] at hv
  rcases hv with rfl | rfl | rfl <;> exact ⟨_,by decide,rfl⟩) hk
 exact ⟨s,h1,idx_one u132 p9 i9 c9 hk h2⟩
theorem search_at {k:Nat} (hk:k<4):∃ s:Bs,s.length≤40∧∀ W,(Instr.index 58 (.agg #[.string ⟨#[119,111,114,100,115]⟩,.string ⟨#[115,101,99,114,101,116,32,112,108,97,105,110]⟩,.string ⟨#[105,116,101,109]⟩,.string ⟨#[98,111,100,121,32,119,111,114,100,115]⟩]) (.int .i64 k)).run Tryz.prog W=.ok (.string ⟨s.toArray⟩) W:=by
 obtain ⟨s,h1,h2⟩:=str_at (l:=[.string ⟨#[119,111,114,100,115]⟩,.string ⟨#[115,101,99,114,101,116,32,112,108,97,105,110]⟩,.string ⟨#[105,116,101,109]⟩,.string ⟨#[98,111,100,121,32,119,111,114,100,115]⟩]) (k:=k) (by
  intro v hv
  simp only [List.mem_cons,List.not_mem_nil,or_false] at hv
  rcases hv with rfl | rfl | rfl | rfl <;> exact ⟨_,by decide,rfl⟩) hk
 exact ⟨s,h1,idx_one u58 p9 i9 c9 hk h2⟩
end Go.Proofs
namespace Go.Proofs
open Go.RowKit Go.Sp
theorem size_app (a b:ByteArray):(a ++ b).size=a.size+b.size:=ByteArray.size_append
theorem RetS.of {n sb:Nat} {w w':World} {t:ByteArray} (ht:t.size≤n) (h:GK sb w w'):RetS n sb w (.returned (.string t)) w':=⟨t.data.toList,by simpa using ht,rfl,h⟩
set_option maxRecDepth 100000 in
set_option maxHeartbeats 4000000 in
theorem text_ok (sb:Nat) (w:World) (h:SrcOk w sb):Calls Tryz.prog 32 #[.pointer (some ⟨sb,0,none⟩)] w (RetS 300 sb w):=by
 have hN:=fun W n (hn:0<n) (hn2:n≤2147483648) h=>next_ok n sb W hn hn2 h
 have hN12:=hN w 12 (by decide) (by decide) h
 have hN3:=fun W h=>hN W 3 (by decide) (by decide) h
 have hN5:=fun W h=>hN W 5 (by decide) (by decide) h
 have hP:=fun W h=>piece_ok sb W h
 clear hN h
 go_enter Tryz.func32,Tryz.ntmps32
 go_wp2_with (go_at_call 28;refine hN12.mono ?_)
 rintro e W ⟨k,hk,rfl,hG⟩
 clear hN12
 by_cases hk0:k=0
 ·subst hk0
  go_wp2_with (go_at_call 28;refine (hN3 _ hG.src).mono ?_)
  rintro e W1 ⟨k1,hk1,rfl,hG1⟩
  obtain ⟨s,hs,hx⟩:=redir_at hk1
  have hG2:=hG.trans hG1
  clear hG hG1 hN3
  go_wp2_with (go_at_call 28;refine (hN5 _ hG2.src).mono ?_)
  rintro e W2 ⟨k2,hk2,rfl,hG3⟩
  have hG4:=hG2.trans hG3
  clear hG2 hG3 hN5 hx
  go_wp2
  go_loopw [3,4] (fun s i wr=>∃ (t:ByteArray) (m:Nat),s=.string t∧i=.int .i64 m∧m<5∧t.size+40 * m≤300∧GK sb w wr) (fun _ i _=>(intOf i).toNat)
  case atStart=>exact ⟨_,k2,rfl,rfl,hk2,by rw [size_app,size_app];have h2:(⟨s.toArray⟩:ByteArray).size=s.length:=rfl;have h3:(⟨#[35,82,69,68,73,82,69,67,84,32,91,91]⟩:ByteArray).size=12:=rfl;have h4:(⟨#[93,93,32]⟩:ByteArray).size=3:=rfl;omega,hG4⟩
  case round =>
   obtain ⟨t,m,rfl,rfl,hm5,hsz,hI⟩:=hrel
   by_cases hm:0<m
   ·have hm1:(0:Int)<m:=by omega
    go_wp2_with (go_at_call 56;refine (hP _ hI.src).mono ?_)
    rintro e W3 ⟨p,hp,rfl,hG5⟩
    have hG6:=hI.trans hG5
    clear hI hG5 hG4 hP
    go_wp2
    go_roundw
    case rel=>exact ⟨_,m - 1,rfl,by go_num,by omega,by rw [size_app];have h2:(⟨p.toArray⟩:ByteArray).size=p.length:=rfl;omega,hG6⟩
    case measure=>simp [intOf];omega
   ·have hm1:¬ (0:Int)<m:=by omega
    go_wp2
    go_ret
    exact RetS.of (by omega) hI
 ·clear hN3
  have hk1:¬ (k:Int)=0:=by omega
  go_wp2_with (go_at_call 28;refine (hN5 _ hG.src).mono ?_)
  rintro e W2 ⟨k2,hk2,rfl,hG3⟩
  have hG4:=hG.trans hG3
  clear hG hG3 hN5
  go_wp2
  go_loopw [3,4] (fun s i wr=>∃ (t:ByteArray) (m:Nat),s=.string t∧i=.int .i64 m∧m<5∧t.size+40 * m≤300∧GK sb w wr) (fun _ i _=>(intOf i).toNat)
  case atStart=>exact ⟨_,k2,rfl,rfl,hk2,by have h2:(⟨#[]⟩:ByteArray).size=0:=rfl;omega,hG4⟩
  case round =>
   obtain ⟨t,m,rfl,rfl,hm5,hsz,hI⟩:=hrel
   by_cases hm:0<m
   ·have hm1:(0:Int)<m:=by omega
    go_wp2_with (go_at_call 56;refine (hP _ hI.src).mono ?_)
    rintro e W3 ⟨p,hp,rfl,hG5⟩
    have hG6:=hI.trans hG5
    clear hI hG5 hG4 hP
    go_wp2
    go_roundw
    case rel=>exact ⟨_,m - 1,rfl,by go_num,by omega,by rw [size_app];have h2:(⟨p.toArray⟩:ByteArray).size=p.length:=rfl;omega,hG6⟩
    case measure=>simp [intOf];omega
   ·have hm1:¬ (0:Int)<m:=by omega
    go_wp2
    go_ret
    exact RetS.of (by omega) hI
end Go.Proofs
namespace Go.Proofs
open Go.RowKit Go.Sp
def ttls:List (Int×Bs):=[(0,[65]),(0,[66]),(0,[65,47,67]),(3,[84]),(4,[88]),(4,[89]),(2,[65,110,110]),(0,[68])]
def ttlAt (i:Nat):Int×Bs:=ttls.getD i (0,[])
def ttlCells:Array Value:=(ttls.flatMap fun t=>[Value.int .i64 t.1,Value.string ⟨t.2.toArray⟩]).toArray
structure TRow (w:World) (B:Nat):Prop where
 sp:∀ i,i<8→w.cell? ⟨B,i * 2,none⟩=some (.int .i64 (ttlAt i).1)
 nm:∀ i,i<8→w.cell? ⟨B,i * 2+1,none⟩=some (.string ⟨(ttlAt i).2.toArray⟩)
theorem TRow.new (w:World):TRow (w.alloc (.cells ttlCells 30)) w.heap.size:=by
 constructor <;> intro i hi <;> (have:i=0∨i=1∨i=2∨i=3∨i=4∨i=5∨i=6∨i=7:=by omega) <;> rcases this with rfl | rfl | rfl | rfl | rfl | rfl | rfl | rfl <;> simp [World.cell?,World.alloc,-World.alloc_eq,ttlCells,ttls,ttlAt]
def RetTs (w:World) (e:Ending) (w':World):Prop:=e=.returned (.slice (some ⟨w.heap.size,0,none⟩) 8 8)∧Below w.heap.size w w'∧TRow w' w.heap.size∧w.heap.size<w'.heap.size
set_option maxRecDepth 100000 in
set_option maxHeartbeats 4000000 in
theorem titles_all (w:World):Calls Tryz.prog 23 #[] w (RetTs w):=by
 have hf:RetTs w (.returned (.slice (some ⟨w.heap.size,0,none⟩) 8 8)) (w.alloc (.cells ttlCells 30)):=⟨rfl,(Below.refl _ w).alloc (Nat.le_refl _) _,TRow.new w,by simp⟩
 have HF:=Lib.hid hf
 clear hf
 go_enter Tryz.func23,Tryz.ntmps23
 go_wp2
 go_ret
 exact HF.out
theorem ttl_valid:∀ i,i<8→valid (ttlAt i).1 (ttlAt i).2=true∧(ttlAt i).2.length≤3:=by
 intro i hi
 have:i=0∨i=1∨i=2∨i=3∨i=4∨i=5∨i=6∨i=7:=by omega
 rcases this with rfl | rfl | rfl | rfl | rfl | rfl | rfl | rfl <;> decide +kernel
def RetT (sb:Nat) (w:World) (e:Ending) (w':World):Prop:=∃ sp n,valid sp n=true∧n.length≤3∧e=.returned (.agg #[.int .i64 sp,.string ⟨n.toArray⟩])∧GK sb w w'
set_option maxRecDepth 100000 in
set_option maxHeartbeats 4000000 in
theorem title_made (sb:Nat) (w:World) (h:SrcOk w sb):Calls Tryz.prog 31 #[.pointer (some ⟨sb,0,none⟩)] w (RetT sb w):=by
 have hT:=fun W=>titles_all W
 have hG:=(GK.refl h).alloc (.cells #[.int .i64 0,.string ⟨#[]⟩] 30)
 have hN:=fun W h=>next_ok 8 sb W (by decide) (by decide) h
 have hc0:(w.alloc (.cells #[.int .i64 0,.string ⟨#[]⟩] 30)).cell? ⟨w.heap.size,0,none⟩=some (.int .i64 0):=by simp [World.cell?,World.alloc,-World.alloc_eq]
 have hc1:(w.alloc (.cells #[.int .i64 0,.string ⟨#[]⟩] 30)).cell? ⟨w.heap.size,1,none⟩=some (.string ⟨#[]⟩):=by simp [World.cell?,World.alloc,-World.alloc_eq]
 have hlt:w.heap.size<(w.alloc (.cells #[.int .i64 0,.string ⟨#[]⟩] 30)).heap.size:=by simp
 have hf:∀ j,(w.alloc (.cells #[.int .i64 0,.string ⟨#[]⟩] 30)).frozen? ⟨w.heap.size,j,none⟩=false:=by intro j;simp [World.frozen?,World.alloc,-World.alloc_eq]
 have hsb:=h.lt
 clear h
 go_enter Tryz.func31,Tryz.ntmps31
 go_wp2_with (go_at_call 23;refine (hT _).mono ?_)
 generalize w.alloc (.cells #[.int .i64 0,.string ⟨#[]⟩] 30)=W at *
 rintro e W1 ⟨rfl,b1,hr,hl1⟩
 have hG1:=hG.step b1
 have hc0':=(b1.cell (p:=⟨w.heap.size,0,none⟩) hlt).trans hc0
 have hc1':=(b1.cell (p:=⟨w.heap.size,1,none⟩) hlt).trans hc1
 have hf':=fun j=>(b1.frozen (p:=⟨w.heap.size,j,none⟩) hlt).trans (hf j)
 have hlt1:=Nat.lt_of_lt_of_le hlt b1.size
 generalize hB:W.heap.size=B at *
 have HB:=Lib.hid hB
 clear hG b1 hT hc0 hc1 hf hB
 go_wp2_with (go_at_call 28;refine (hN _ hG1.src).mono ?_)
 rintro e W2 ⟨k,hk,rfl,hG2⟩
 have c0:=(hG2.cell hl1 (by omega) (k * 2)).trans (hr.sp k hk)
 have c1:=(hG2.cell hl1 (by omega) (k * 2+1)).trans (hr.nm k hk)
 have d0:=(hG2.cell hlt1 (by omega) 0).trans hc0'
 have d1:=(hG2.cell hlt1 (by omega) 1).trans hc1'
 obtain ⟨hv,hn⟩:=ttl_valid k hk
 generalize (ttlAt k).1=sp at *
 generalize (ttlAt k).2=nm at *
 have f0:W2.frozen? ⟨w.heap.size,0,none⟩=false:=(hG2.frozen hlt1 (by omega) 0).trans (hf' 0)
 have f1:W2.frozen? ⟨w.heap.size,1,none⟩=false:=(hG2.frozen hlt1 (by omega) 1).trans (hf' 1)
 have hG3:=((hG1.trans hG2).store (Nat.le_refl _) 0 (.int .i64 sp)).store (Nat.le_refl _) 1 (.string ⟨nm.toArray⟩)
 clear hG1 hG2 hr hN hc0' hc1' hf'
 go_wp2
 have e1:=World.cell?_setCell_same (W2.setCell ⟨w.heap.size,0,none⟩ (.int .i64 sp)) ⟨w.heap.size,1,none⟩ (.string ⟨nm.toArray⟩) ((World.cell?_setCell_other W2 ⟨w.heap.size,0,none⟩ ⟨w.heap.size,1,none⟩ (.int .i64 sp) (by simp)).trans d1)
 have e0:=(World.cell?_setCell_other (W2.setCell ⟨w.heap.size,0,none⟩ (.int .i64 sp)) ⟨w.heap.size,1,none⟩ ⟨w.heap.size,0,none⟩ (.string ⟨nm.toArray⟩) (by simp)).trans (World.cell?_setCell_same W2 ⟨w.heap.size,0,none⟩ (.int .i64 sp) d0)
 exact bodyPost_ret (v:=.agg #[.int .i64 sp,.string ⟨nm.toArray⟩]) (by simp [results,Tryz.results31,go_sem,e0,e1]) rfl ⟨sp,nm,hv,hn,rfl,hG3⟩
end Go.Proofs
namespace Go.Proofs
open Go.RowKit Go.Sp
def NumsA (w:World) (A:Option Addr) (m:Nat):Prop:=∀ j,j<m→∃ (a:Addr) (v:Int),A=some a∧a.block<w.heap.size∧w.cell? (a.add j)=some (.int .i64 v) ∧ -9223372036854775808≤v∧v≤9223372036854775807
theorem SrcFirst (w:World) (A:Option Addr) (m c:Nat) (hm:m≤9223372036854775807) (h:NumsA w A m):Src (w.alloc (.cells #[.slice A m c,.int .i64 0,.int .u64 11400714819323198485] 69)) w.heap.size A m c 0 11400714819323198485:=by
 have hx:Below w.heap.size w (w.alloc (.cells #[.slice A m c,.int .i64 0,.int .u64 11400714819323198485] 69)):=(Below.refl _ w).alloc (Nat.le_refl _) _
 refine ⟨?_,?_,?_,?_,by simp,Nat.zero_le _,hm,by omega,by omega,fun j hj=>?_⟩
 ·simp [World.cell?,World.alloc,-World.alloc_eq]
 ·simp [World.cell?,World.alloc,-World.alloc_eq]
 ·simp [World.cell?,World.alloc,-World.alloc_eq]
 ·intro j hj;simp [World.frozen?,World.alloc,-World.alloc_eq]
 ·obtain ⟨a,v,h1,h2,h3,h4⟩:=h j hj
  exact ⟨a,v,h1,h2,(cell_block (by rw [add_block];exact hx.block _ h2)).trans h3,h4⟩
theorem NumsA.toI {w:World} {A:Option Addr} {m:Nat} (h:NumsA w A m) {w':World} (x:Below w.heap.size w w') {j:Nat} (hj:j<m):∃ (a:Addr) (v:Int),A=some a∧a.block<w.heap.size∧w'.cell? (a.add j)=some (.int .i64 v):=by
 obtain ⟨a,v,h1,h2,h3,h4⟩:=h j hj
 exact ⟨a,v,h1,h2,(cell_block (by rw [add_block];exact x.block _ h2)).trans h3⟩
theorem xor_rng (x y:Int):0≤Go.bits BinOp.xor IntKind.u64 x y∧Go.bits BinOp.xor IntKind.u64 x y≤18446744073709551615:=u64_rng _
def RetFr (w:World) (e:Ending) (w':World):Prop:=e=.returned (.pointer (some ⟨w.heap.size,0,none⟩))∧Below w.heap.size w w'∧SrcOk w' w.heap.size
set_option maxRecDepth 100000 in
set_option maxHeartbeats 4000000 in
theorem from_ok (A:Option Addr) (m c:Nat) (w:World) (hm:m≤9223372036854775807) (h:NumsA w A m):Calls Tryz.prog 15 #[.slice A m c] w (RetFr w):=by
 have h0:=SrcFirst w A m c hm h
 have hb0:Below w.heap.size w (w.alloc (.cells #[.slice A m c,.int .i64 0,.int .u64 11400714819323198485] 69)):=(Below.refl _ w).alloc (Nat.le_refl _) _
 go_enter Tryz.func15,Tryz.ntmps15
 go_wp2
 go_loopw [4] (fun i wr=>∃ (k:Nat) (s:Int),i=.int .i64 k∧k≤m∧k≤64∧Src wr w.heap.size A m c 0 s∧Below w.heap.size w wr) (fun i _=>64 - (intOf i).toNat)
 case atStart=>exact ⟨0,_,rfl,Nat.zero_le _,by omega,h0,hb0⟩
 case round =>
  obtain ⟨k,s,rfl,hk,hk64,hS,hW⟩:=hrel
  clear h0 hb0
  by_cases hkm:k<m
  ·by_cases hk6:k<64
   ·obtain ⟨a,v,rfl,ha,hc⟩:=h.toI hW hkm
    have c0:=hS.c0
    have c2:=hS.c2
    have f2:=hS.fr 2 (by decide)
    go_wp2
    go_region
    go_wp2
    have hu:=u64_rng (Go.bits BinOp.xor IntKind.u64 s (IntKind.u64.wrap v) * 18397679294719823053)
    have hS2:=(hS.setS hu.1 hu.2).drewN 1
    have hW2:=(hW.setCell (p:=⟨w.heap.size,2,none⟩) (Nat.le_refl _) (.int .u64 (IntKind.u64.wrap (Go.bits BinOp.xor IntKind.u64 s (IntKind.u64.wrap v) * 18397679294719823053)))).drew
    change Src (wr.setCell _ _).drew _ _ _ _ _ _ at hS2
    generalize IntKind.u64.wrap (Go.bits BinOp.xor IntKind.u64 s (IntKind.u64.wrap v) * 18397679294719823053)=u at *
    generalize (wr.setCell _ _).drew=W2 at *
    clear c0 c2 f2 hS hW hc hu
    have c2:=hS2.c2
    have f2:=hS2.fr 2 (by decide)
    go_region
    go_wp2
    have hu:=xor_rng u (u / 8589934592)
    have hS3:=(hS2.setS hu.1 hu.2).drewN 1
    have hW3:=(hW2.setCell (p:=⟨w.heap.size,2,none⟩) (Nat.le_refl _) (.int .u64 (Go.bits BinOp.xor IntKind.u64 u (u / 8589934592)))).drew
    change Src (W2.setCell _ _).drew _ _ _ _ _ _ at hS3
    go_roundw
    case rel=>exact ⟨k+1,_,by go_num,by omega,by omega,hS3,hW3⟩
    case measure=>simp [intOf];omega
   ·have hk2:¬ (k:Int)<64:=by omega
    go_wp2
    go_ret
    exact ⟨rfl,hW,_,_,_,_,_,hS⟩
  ·have hk2:¬ (k:Int)<m:=by omega
   go_wp2
   go_ret
   exact ⟨rfl,hW,_,_,_,_,_,hS⟩
end Go.Proofs
