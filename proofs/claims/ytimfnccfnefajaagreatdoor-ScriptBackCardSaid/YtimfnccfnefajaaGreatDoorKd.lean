/- The check of the example returns true in every world that holds the listed variables; and the function Round. -/
import Derived.Test.YtimfnccfnefajaaGreatDoorChecked
import Derived.KernelRfl
import Derived.Test.YtimfnccfnefajaaGreatDoorKc
import GoSem.PinnedTables
import Derived.Test.YtimfnccfnefajaaGreatDoorEvI
set_option linter.unusedSimpArgs false
set_option linter.unusedVariables false
namespace Go.Ev
open Go.Proofs
noncomputable section
def kList (m : Int) : List (Nat × AObj) := [
  (2, .cells [.int .i64 m] 3 0 false),
  (0, .cells [.int .i64 (5), .str [80, 111, 108, 105, 99, 121]] 30 0 false),
  (1, .cells [.int .i64 (5), .str [80, 111, 108, 105, 99, 121]] 30 0 false),
  (3, .cells [.int .u64 (1), .int .u64 (10), .int .u64 (100), .int .u64 (1000), .int .u64 (10000), .int .u64 (100000), .int .u64 (1000000), .int .u64 (10000000), .int .u64 (100000000), .int .u64 (1000000000), .int .u64 (10000000000), .int .u64 (100000000000), .int .u64 (1000000000000), .int .u64 (10000000000000), .int .u64 (100000000000000), .int .u64 (1000000000000000), .int .u64 (10000000000000000), .int .u64 (100000000000000000), .int .u64 (1000000000000000000), .int .u64 (10000000000000000000)] 551 0 false),
  (4, .cells (lmap (fun n => .int .u8 (Int.ofNat n)) Go.Pinned.utf8FirstZ) 560 0 false),
  (5, .cells [.int .u8 (128), .int .u8 (191), .int .u8 (160), .int .u8 (191), .int .u8 (128), .int .u8 (159), .int .u8 (144), .int .u8 (191), .int .u8 (128), .int .u8 (143), .int .u8 (0), .int .u8 (0), .int .u8 (0), .int .u8 (0), .int .u8 (0), .int .u8 (0), .int .u8 (0), .int .u8 (0), .int .u8 (0), .int .u8 (0), .int .u8 (0), .int .u8 (0), .int .u8 (0), .int .u8 (0), .int .u8 (0), .int .u8 (0), .int .u8 (0), .int .u8 (0), .int .u8 (0), .int .u8 (0), .int .u8 (0), .int .u8 (0)] 563 0 false),
  (6, .cells [.int .i64 (5), .str [80, 111, 108, 105, 99, 121]] 30 0 false),
  (9, .cells [.int .i64 (5), .str [80, 111, 108, 105, 99, 121]] 30 0 false),
  (10, .cells [.int .u8 (0), .int .u8 (1), .int .u8 (28), .int .u8 (2), .int .u8 (29), .int .u8 (14), .int .u8 (24), .int .u8 (3), .int .u8 (30), .int .u8 (22), .int .u8 (20), .int .u8 (15), .int .u8 (25), .int .u8 (17), .int .u8 (4), .int .u8 (8), .int .u8 (31), .int .u8 (27), .int .u8 (13), .int .u8 (23), .int .u8 (21), .int .u8 (19), .int .u8 (16), .int .u8 (7), .int .u8 (26), .int .u8 (12), .int .u8 (18), .int .u8 (6), .int .u8 (11), .int .u8 (5), .int .u8 (10), .int .u8 (9)] 795 0 false),
  (11, .cells [.int .u8 (0), .int .u8 (1), .int .u8 (56), .int .u8 (2), .int .u8 (57), .int .u8 (49), .int .u8 (28), .int .u8 (3), .int .u8 (61), .int .u8 (58), .int .u8 (42), .int .u8 (50), .int .u8 (38), .int .u8 (29), .int .u8 (17), .int .u8 (4), .int .u8 (62), .int .u8 (47), .int .u8 (59), .int .u8 (36), .int .u8 (45), .int .u8 (43), .int .u8 (51), .int .u8 (22), .int .u8 (53), .int .u8 (39), .int .u8 (33), .int .u8 (30), .int .u8 (24), .int .u8 (18), .int .u8 (12), .int .u8 (5), .int .u8 (63), .int .u8 (55), .int .u8 (48), .int .u8 (27), .int .u8 (60), .int .u8 (41), .int .u8 (37), .int .u8 (16), .int .u8 (46), .int .u8 (35), .int .u8 (44), .int .u8 (21), .int .u8 (52), .int .u8 (32), .int .u8 (23), .int .u8 (11), .int .u8 (54), .int .u8 (26), .int .u8 (40), .int .u8 (15), .int .u8 (34), .int .u8 (20), .int .u8 (31), .int .u8 (10), .int .u8 (25), .int .u8 (14), .int .u8 (19), .int .u8 (9), .int .u8 (13), .int .u8 (8), .int .u8 (7), .int .u8 (6)] 796 0 false)
  ]
def kMem (m : Int) : Mem := setAll (kList m)
def isTrue (r : Option Res) : Bool := oelim r false fun r => @Res.rec (fun _ => Bool) (fun _ _ _ => false) (fun v _ => oelim v.asBool false fun b => b) r
set_option maxRecDepth 100000
theorem t2 (m : Int) : isTrue (ev env 3000 (.call (kMem m) 9 [] { H := .leaf, k := 12 })) = true := by kernel_rfl
end
end Go.Ev
namespace Go.Ev
open Go.Proofs
noncomputable section
def ρ0 : Ren := fun n => ⟨n, 0, 0⟩
def D0 : Dom := fun n => n < 12
def s0 : St := { H := .leaf, k := 12 }
theorem mem0 {m : Int} {w : World} (hsz : 12 ≤ w.heap.size) (hK : ∀ n o, (n, o) ∈ kList m → n < 12 ∧ o.inD D0 ∧ Rd Tryz.prog ρ0 w n o) : MemOk Tryz.prog ρ0 D0 (kMem m) (fun b => b < w.heap.size) s0 w where
  dom := fun n hn => hn
  own := fun n o h => by cases h
  inj := fun n m o o' h => by cases h
  rd := fun n o h => by
    obtain ⟨h1, h2, h3⟩ := hK n o (setAll_mem _ n o h)
    exact ⟨h1, h2, h3, Nat.lt_of_lt_of_le h1 hsz⟩
  prlt := fun b hb => hb
  gl := fun g hg => by
    rw [glsz] at hg
    exact ⟨hg, rfl⟩
theorem isTrue_some {r : Option Res} (h : isTrue r = true) : ∃ s', r = some (.call (.bool true) s') := by
  cases r with
  | none => cases h
  | some r =>
    cases r with
    | call v s' =>
      cases v with
      | bool b =>
        have h : b = true := h
        subst h
        exact ⟨s', rfl⟩
      | _ => cases h
    | _ => cases h
theorem awake_any (hc : ∀ (s sub : ByteArray) (m : Int) (w : World), s.size < 4294967281 → w.cell? ⟨2, 0, none⟩ = some (.int .i64 m) → Calls Tryz.prog 165 #[.string s, .string sub] w fun e w' => e = .returned (.int .i64 (Lib.index s.data.toList sub.data.toList)) ∧ w' = w)
    {m : Int} {w : World} (hsz : 12 ≤ w.heap.size) (hK : ∀ n o, (n, o) ∈ kList m → n < 12 ∧ o.inD D0 ∧ Rd Tryz.prog ρ0 w n o) :
    Calls Tryz.prog 9 #[] w fun e w' => e = .returned (.bool true) ∧ Keeps (fun b => b < w.heap.size) w w' := by
  obtain ⟨s', hs⟩ := isTrue_some (t2 m)
  obtain ⟨v, s2, hv, _, hC⟩ := (ev_ok (envOk hc) 3000).1 _ _ _ _ _ hs
  obtain ⟨rfl, rfl⟩ : v = .bool true ∧ s2 = s' := by
    cases hv
    exact ⟨rfl, rfl⟩
  refine (hC ρ0 D0 (fun b => b < w.heap.size) w (mem0 hsz hK) trivial).mono fun e w' he => ?_
  obtain ⟨val, ρ', D', rfl, hp⟩ := he
  exact ⟨by rw [hp.val]; rfl, hp.keeps⟩
end
end Go.Ev
namespace Go.Ev
open Go.Proofs
noncomputable section
set_option maxRecDepth 100000
/-- K holds the globals as the run of awake reads them. -/
def kRest : List (Nat × AObj) := @List.rec (Nat × AObj) (fun _ => List (Nat × AObj)) [] (fun _ l _ => l) (kList 0)
def kFits (K : Mem) : Bool := band (bnot (isNoneB (obind (K.get 2) (intObj 3)))) (eqObjs K kRest)
theorem kRest_eq (m : Int) : kList m = (2, .cells [.int .i64 m] 3 0 false) :: kRest := by kernel_rfl
theorem kFits_some {K : Mem} (h : kFits K = true) : ∃ m, ∀ n o, (n, o) ∈ kList m → K.get n = some o := by
  unfold kFits at h
  rw [band_eq, Bool.and_eq_true] at h
  obtain ⟨m, hm⟩ := isSome_of h.1
  obtain ⟨o, ho, hm⟩ := obind_some hm
  refine ⟨m, fun n o' hn => ?_⟩
  rw [kRest_eq] at hn
  rcases List.mem_cons.1 hn with hn | hn
  · obtain ⟨rfl, rfl⟩ := Prod.mk.inj hn
    rw [ho, intObj_some hm]
  · exact eqObjs_eq h.2 n o' hn
def isAw (f : FuncId) (args : List AV) (K : Mem) : Bool := band (Nat.beq f 9) (band (isNilB args) (kFits K))
/-- awake() at once, all else by the evaluator. -/
def recA (n : Nat) : Rec := fun t => @Task.rec (fun _ => Option Res) (fun K c fr s => ev env n (.code K c fr s)) (fun K f args s => sw (isAw f args K) (some (.call (.bool true) s)) (ev env n (.call K f args s))) (fun K f args s => ev env n (.dcall K f args s)) t
def plainObj (p : Nat × AObj) : Bool := band (Nat.ble p.1 11) (AObj.el (fun vs _ _ _ => lall (fun v => bor (bnot (isNoneB v.asInt)) (bnot (isNoneB v.asStr))) vs) (fun _ _ => false) (fun _ _ => false) p.2)
theorem plain_all (m : Int) : lall plainObj (kList m) = true := by kernel_rfl
theorem plain_inD {p : Nat × AObj} (h : plainObj p = true) (D : Dom) : p.1 < 12 ∧ p.2.inD D := by
  obtain ⟨n, o⟩ := p
  unfold plainObj at h
  rw [band_eq, Bool.and_eq_true, ble_eq, decide_eq_true_eq] at h
  refine ⟨Nat.lt_succ_of_le h.1, ?_⟩
  cases o with
  | cells vs e f sh =>
    refine (allIn_iff D vs).2 fun v hv => ?_
    have h2 := (lall_iff _ _).1 (show lall (fun v => bor (bnot (isNoneB v.asInt)) (bnot (isNoneB v.asStr))) vs = true from h.2) v hv
    cases v <;> first | trivial | cases h2
  | _ => cases h.2
theorem awake_post (hc : ∀ (s sub : ByteArray) (m : Int) (w : World), s.size < 4294967281 → w.cell? ⟨2, 0, none⟩ = some (.int .i64 m) → Calls Tryz.prog 165 #[.string s, .string sub] w fun e w' => e = .returned (.int .i64 (Lib.index s.data.toList sub.data.toList)) ∧ w' = w)
    {ρ : Ren} {D : Dom} {K : Mem} {Pr : Nat → Prop} {s : St} {w : World} (hK : kFits K = true) (hm : MemOk Tryz.prog ρ D K Pr s w) :
    Calls Tryz.prog 9 ⟨toVs ρ []⟩ w fun e w' => ∃ val ρ' D', e = .returned val ∧ Post Tryz.prog ρ D K Pr s w (.bool true) s val w' ρ' D' := by
  obtain ⟨m, hK⟩ := kFits_some hK
  have hpl := fun p hp => plain_inD ((lall_iff _ _).1 (plain_all m) p hp)
  have hg : ∀ n, n < 12 → D n ∧ ρ n = ⟨n, 0, 0⟩ := fun n hn => hm.gl n (by rw [glsz]; exact hn)
  have hag : Agree D0 ρ ρ0 := fun n hn => (hg n hn).2.symm
  have hsz : 12 ≤ w.heap.size := by
    obtain ⟨o, ho⟩ : ∃ o, (11, o) ∈ kList m := ⟨_, List.mem_of_getElem? (i := 9) (show (kList m)[9]? = some (11, _) from rfl)⟩
    have := hm.prlt _ (hm.rd 11 o (hK 11 o ho)).2.2.2
    rw [(hg 11 (by omega)).2] at this
    exact this
  refine (awake_any hc (m := m) hsz fun n o ho => ?_).mono fun e w' he => ⟨_, ρ, D, he.1, Post.keep hm he.2 (v := .bool true) trivial⟩
  obtain ⟨h1, h2⟩ := hpl (n, o) ho D0
  exact ⟨h1, h2, (hm.rd n o (hK n o ho)).2.2.1.move h2 (hg n h1).2.symm hag rfl⟩
theorem recA_ok (hc : ∀ (s sub : ByteArray) (m : Int) (w : World), s.size < 4294967281 → w.cell? ⟨2, 0, none⟩ = some (.int .i64 m) → Calls Tryz.prog 165 #[.string s, .string sub] w fun e w' => e = .returned (.int .i64 (Lib.index s.data.toList sub.data.toList)) ∧ w' = w) (n : Nat) : CallOk Tryz.prog (recA n) := by
  intro K f args s r h
  have h5 : sw (isAw f args K) (some (.call (.bool true) s)) (ev env n (.call K f args s)) = some r := h
  rw [sw_eq] at h5
  split at h5
  · rename_i ha
    unfold isAw at ha
    rw [band_eq, band_eq, Bool.and_eq_true, Bool.and_eq_true, nbeq_eq, decide_eq_true_eq, isNilB_eq, List.isEmpty_iff] at ha
    obtain ⟨rfl, rfl, hK⟩ := ha
    obtain rfl := Option.some.inj h5
    exact ⟨_, _, rfl, ⟨Tryz.f9, by kernel_rfl, by kernel_rfl, by kernel_rfl⟩, fun ρ D Pr w hm _ => awake_post hc hK hm⟩
  · exact (ev_ok (envOk hc) n).1 K f args s r h5
end
end Go.Ev
namespace Go.Ev
open Go.Proofs
noncomputable section
set_option maxRecDepth 100000
variable {ρ ρ' : Ren} {D D' : Dom} {K : Mem} {Pr : Nat → Prop} {s s' : St} {w w' : World} {fr : Fr}
def frR (v n : Int) : Fr := ⟨15, 12, Tr.ofList [i64 v, i64 n], []⟩
def lR (v n : Int) : List (Tmp × AV) := [(4, i64 0), (6, i64 v), (7, i64 n), (8, i64 (v.tmod n)), (5, i64 (v.tmod n)), (9, i64 (v.tmod n)), (10, .bool (ilt (v.tmod n) 0))]
def lRn (v n : Int) : List (Tmp × AV) := [(11, i64 (v.tmod n)), (12, i64 n), (13, i64 (wrapF .i64 (addF (v.tmod n) n))), (5, i64 (wrapF .i64 (addF (v.tmod n) n)))]
def RoundR (v n : Int) : Int := if v.tmod n < 0 then v.tmod n + n else v.tmod n
theorem roundR_lt {v n : Int} (hn : 0 < n) : 0 ≤ RoundR v n ∧ RoundR v n < n := by
  have h1 := Int.tmod_lt_of_pos v hn
  have h2 : -n < v.tmod n := by
    have := Int.lt_tmod_of_pos v hn
    omega
  unfold RoundR
  split <;> omega
theorem enterF (hN : EnvOk Tryz.prog env0) {k : Nat} {fn : Func} (hfn : fn.ntmps = k) {vs : List AV} (hl : vs.length ≤ k) (hd : allIn D vs) : FrOk Tryz.prog ρ D noX ⟨k, 12, Tr.ofList vs, []⟩ { tmps := (⟨toVs ρ vs⟩ : Array Value) ++ Array.replicate (fn.ntmps - (⟨toVs ρ vs⟩ : Array Value).size) undef, defers := [] } := by
  subst hfn
  exact enter_frame (P := Tryz.prog) (E := env0) (ρ := ρ) (D := D) hN hl hd
theorem round_ok (hm : MemOk Tryz.prog ρ D K Pr s w) {v n : Int} (hn : n = 8 ∨ n = 4) :
    Calls Tryz.prog 11 ⟨toVs ρ [i64 v, i64 n]⟩ w fun e w' => ∃ val ρ' D', e = .returned val ∧ Post Tryz.prog ρ D K Pr s w (i64 (RoundR v n)) s val w' ρ' D' := by
  have hN := env0Ok
  have hfn : Tryz.f11.ntmps = 15 := by kernel_rfl
  have hf0 := enterF (ρ := ρ) (D := D) hN hfn (vs := [i64 v, i64 n]) (by show 2 ≤ 15; omega) ⟨trivial, trivial, trivial⟩
  have hr : ilt (v.tmod n) 0 = true → wrapF .i64 (addF (v.tmod n) n) = RoundR v n := by
    intro h
    rw [ilt_eq, decide_eq_true_eq] at h
    have h2 : -n < v.tmod n := Int.lt_tmod_of_pos v (by omega)
    unfold RoundR
    rw [if_pos h, wrapF_eq, addF_eq]
    generalize v.tmod n = x at h h2
    rcases hn with rfl | rfl
    · have : x = -1 ∨ x = -2 ∨ x = -3 ∨ x = -4 ∨ x = -5 ∨ x = -6 ∨ x = -7 := by omega
      rcases this with rfl | rfl | rfl | rfl | rfl | rfl | rfl <;> decide
    · have : x = -1 ∨ x = -2 ∨ x = -3 := by omega
      rcases this with rfl | rfl | rfl <;> decide
  have hr2 : ilt (v.tmod n) 0 = false → v.tmod n = RoundR v n := by
    intro h
    rw [ilt_eq, decide_eq_false_iff_not] at h
    unfold RoundR
    rw [if_neg h]
  refine calls_of_wp_defers (fn := Tryz.f11) (by kernel_rfl) (show Tryz.f11.body = some _ from rfl) ?_
  refine wp_seq (wp_plain hN callOk_no hm hf0 (p := (pf (frR v n) ((lR v n).take 1), s)) (by kernel_rfl) fun a1 w1 ρ1 D1 h1 => ?_)
  refine wp_seq (wp_plain hN callOk_no h1.mem h1.fr (p := (pf (frR v n) ((lR v n).take 5), s)) (by rcases hn with rfl | rfl <;> kernel_rfl) fun a2 w2 ρ2 D2 h2 => ?_)
  have h12 := h1.trans h2
  refine wp_seq (wp_seq (wp_plain hN callOk_no h12.mem h12.fr (p := (pf (frR v n) (lR v n), s)) (by kernel_rfl) fun a3 w3 ρ3 D3 h3 => wp_cond_ev h3.mem h3.fr (t := ilt (v.tmod n) 0) (by kernel_rfl) ?_))
  have h13 := h12.trans h3
  cases hb : ilt (v.tmod n) 0 with
  | true =>
    refine wp_plain hN callOk_no h13.mem h13.fr (p := (pf (frR v n) (lR v n ++ lRn v n), s)) (by rcases hn with rfl | rfl <;> kernel_rfl) fun a4 w4 ρ4 D4 h4 => ?_
    refine wp_seq (wp_plain hN callOk_no h4.mem h4.fr (p := (pf (frR v n) (lR v n ++ lRn v n ++ [(14, i64 (wrapF .i64 (addF (v.tmod n) n))), (4, i64 (wrapF .i64 (addF (v.tmod n) n)))]), s)) (by kernel_rfl) fun a5 w5 ρ5 D5 h5 => wp_ret ?_)
    have hZ := (h13.trans h4).trans h5
    refine ret_leaves (E := env0) (vs := [i64 (wrapF .i64 (addF (v.tmod n) n))]) hN.toTysOk hZ.mem hZ.fr (by kernel_rfl) (by kernel_rfl) fun hd => ?_
    exact ⟨_, ρ5, D5, rfl, hZ.agree, hZ.grow, hZ.fresh, hZ.mem, hZ.keeps, by rw [hr hb]; rfl, trivial, hZ.le⟩
  | false =>
    refine wp_skip ?_
    refine wp_seq (wp_plain hN callOk_no h13.mem h13.fr (p := (pf (frR v n) (lR v n ++ [(14, i64 (v.tmod n)), (4, i64 (v.tmod n))]), s)) (by kernel_rfl) fun a5 w5 ρ5 D5 h5 => wp_ret ?_)
    have hZ := h13.trans h5
    refine ret_leaves (E := env0) (vs := [i64 (v.tmod n)]) hN.toTysOk hZ.mem hZ.fr (by kernel_rfl) (by kernel_rfl) fun hd => ?_
    exact ⟨_, ρ5, D5, rfl, hZ.agree, hZ.grow, hZ.fresh, hZ.mem, hZ.keeps, by rw [← hr2 hb]; rfl, trivial, hZ.le⟩
end
end Go.Ev
