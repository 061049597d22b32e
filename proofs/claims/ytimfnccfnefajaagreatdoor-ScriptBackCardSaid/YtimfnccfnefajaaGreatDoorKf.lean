/- ScriptTitles returns true and leaves what was there, in every world that holds the listed variables. -/
import Derived.Test.YtimfnccfnefajaaGreatDoorKe
set_option linter.unusedSimpArgs false
set_option linter.unusedVariables false
namespace Go.Ev
open Go.Proofs
section
variable {P : Program} {E : Env} {ρ ρ' : Ren} {D D' : Dom} {K : Mem} {Pr : Nat → Prop} {s s' : St} {w w' : World} {fr fr' : Fr} {a a' : Act} {Q : Exit → Act → World → Prop} {rec : Rec}
/-- A region without draws, a call proved by hand in its middle. -/
theorem wp_split (hN : EnvOk P E) (hrec : CallOk P rec) {id : Nat} {ops : Array Oper} {p1 p3 : FS} {o : Oper} (k r : Nat) (hk : ops.size = k + (r + 1)) (hm : MemOk P ρ D K Pr s w) (hf : FrOk P ρ D noX fr a)
    (h1 : runOps E rec K ops.toList (ops.toList.take k) fr s = some p1) (hi : ops[k]? = some o) (hg : o.guard = none)
    {f : FuncId} {args : Array Operand} {ts : Array TypeId} (ho : o.op = .call ⟨.value (.func f), args, ts⟩) (hF : ∃ fn, P.funcs[f]? = some fn ∧ (fn.name == "runtime.NumGoroutine") = false ∧ fn.body.isNone = false)
    {vs : List AV} (hvs : evalAll args.toList p1.1 = some vs) {v : AV}
    (hc : ∀ (ρ : Ren) (D : Dom) (w : World), MemOk P ρ D K Pr p1.2 w → Calls P f ⟨toVs ρ vs⟩ w fun e w' => ∃ val ρ' D', e = .returned val ∧ Post P ρ D K Pr p1.2 w v p1.2 val w' ρ' D')
    {fr2 : Fr} (hput : putD o.dst v p1.1 = some fr2) (h3 : runOps E rec K ops.toList (ops.toList.drop (k + 1)) fr2 p1.2 = some p3)
    (hQ : ∀ a' w' ρ' D', Out P ρ D K Pr s w noX p3.1 p3.2 a' w' ρ' D' → Q .normal a' w') : (Code.region id ops false).wp P Q a w := by
  refine wp_pre hN hrec hm hf k (r + 1) hk h1 fun a1 w1 ρ1 D1 h1' => ?_
  rw [List.range'_succ]
  refine wpOps_at hi hg (call_ent h1'.mem h1'.fr hF ho hvs (hc ρ1 D1 w1 h1'.mem) hput fun a2 w2 ρ2 D2 h2 => ?_)
  have h12 := h1'.trans h2
  have := runOps_ok hN hrec (ops := ops) (Q := Q) (ops.toList.drop (k + 1)) (k + 1) rfl fr2 p1.2 a2 w2 ρ2 D2 p3 h2.mem h2.fr h3 fun a3 w3 ρ3 D3 h3 => hQ a3 w3 ρ3 D3 (h12.trans h3)
  have hl : (ops.toList.drop (k + 1)).length = r := by
    rw [List.length_drop, Array.length_toList]
    omega
  rw [hl] at this
  exact this
end
noncomputable section
set_option maxRecDepth 100000
variable {ρ ρ' : Ren} {D D' : Dom} {K : Mem} {Pr : Nat → Prop} {s s' : St} {w w' : World} {fr : Fr}
theorem oneTrue_eq {o : Option (List AV)} (h : oneTrue o = true) : o = some [.bool true] := by
  cases o with
  | none => cases h
  | some vs =>
    cases vs with
    | nil => cases h
    | cons x xs =>
      have h2 : band (isNilB xs) (oelim x.asBool false fun b => b) = true := h
      rw [band_eq, Bool.and_eq_true, isNilB_eq, List.isEmpty_iff] at h2
      obtain ⟨rfl, h3⟩ := h2
      cases hx : x.asBool with
      | none => rw [hx] at h3; cases h3
      | some b =>
        rw [hx] at h3
        have h4 : b = true := h3
        rw [asBool_some hx, h4]
theorem ok8_some {m : Int} {p : OFS} (h : ok8 m p = true) : ∃ q, p = some q ∧ q.1.defs = [] ∧ resultsA env (kMem m) q.1 q.2 Tryz.f8.results.toList = some [.bool true] := by
  cases p with
  | none => cases h
  | some q =>
    have h : band (isNilB q.1.defs) (oneTrue (resultsA env (kMem m) q.1 q.2 Tryz.f8.results.toList)) = true := h
    rw [band_eq, Bool.and_eq_true, isNilB_eq, List.isEmpty_iff] at h
    exact ⟨q, rfl, h.1, oneTrue_eq h.2⟩
theorem go_some {m : Int} {all l : List Oper} {p : OFS} {r : FS} (h : go m all l p = some r) : ∃ q, p = some q ∧ runOps env (recA 3000) (kMem m) all l q.1 q.2 = some r := obind_some h
theorem putT_some {d : Tmp} {v : AV} {p : OFS} {r : FS} (h : putT d v p = some r) : ∃ q, p = some q ∧ putD (some d) v q.1 = some r.1 ∧ r.2 = q.2 := by
  obtain ⟨q, hq, h⟩ := obind_some h
  obtain ⟨f, hf, rfl⟩ := omap_some h
  exact ⟨q, hq, hf, rfl⟩
def callOf (o : Oper) : Option (FuncId × Array Operand × Array TypeId) := match o.op with
  | .call ⟨.value (.func f), args, ts⟩ => some (f, args, ts)
  | _ => none
theorem callOf_eq {o : Oper} {f : FuncId} {args : Array Operand} {ts : Array TypeId} (h : callOf o = some (f, args, ts)) : o.op = .call ⟨.value (.func f), args, ts⟩ := by
  unfold callOf at h
  split at h
  · rename_i e
    simp only [Option.some.injEq, Prod.mk.injEq] at h
    obtain ⟨rfl, rfl, rfl⟩ := h
    exact e
  · cases h
def chk (l : List Oper) (k f d : Nat) : Bool := match lget l k with
  | none => false
  | some o => match callOf o with
    | none => false
    | some c => Nat.beq c.1 f && (match o.dst with
      | some d' => Nat.beq d' d
      | none => false) && o.guard.isNone
def evArgs (l : List Oper) (k : Nat) (p : FS) : Option (List AV) := obind (lget l k) fun o => obind (callOf o) fun c => evalAll c.2.1.toList p.1
theorem chk_some {l : List Oper} {k f d : Nat} (h : chk l k f d = true) : ∃ o args ts, lget l k = some o ∧ o.guard = none ∧ o.dst = some d ∧ o.op = .call ⟨.value (.func f), args, ts⟩ ∧ ∀ p, evArgs l k p = evalAll args.toList p.1 := by
  unfold chk at h
  cases ho : lget l k with
  | none => rw [ho] at h; cases h
  | some o =>
    rw [ho] at h
    cases hc : callOf o with
    | none => simp only [hc] at h; cases h
    | some c =>
      obtain ⟨f', args, ts⟩ := c
      simp only [hc, Bool.and_eq_true] at h
      obtain ⟨⟨h1, h2⟩, h3⟩ := h
      obtain rfl : f' = f := Nat.eq_of_beq_eq_true h1
      refine ⟨o, args, ts, rfl, Option.isNone_iff_eq_none.1 h3, ?_, callOf_eq hc, fun p => ?_⟩
      · cases hd : o.dst with
        | none => rw [hd] at h2; cases h2
        | some d' => rw [hd] at h2; rw [Nat.eq_of_beq_eq_true h2]
      · unfold evArgs
        rw [ho]
        show obind (callOf o) (fun c => evalAll c.2.1.toList p.1) = _
        rw [hc]
        rfl
def xArg (x : Option (Nat × Nat)) (l c : Nat) (how m : Int) : Int := oelim (obind (obind (q2 x l c how m) (evArgs g1 3)) fun vs => obind (lget vs 0) AV.asInt) 0 fun p => p.2
theorem targs1 (x : Option (Nat × Nat)) (l c : Nat) (how m : Int) : obind (q2 x l c how m) (evArgs g1 3) = some [i64 (xArg x l c how m), i64 8] := by kernel_rfl
theorem chk1 : chk g1 3 11 14 = true := by kernel_rfl
theorem chk3 : chk g3 9 11 28 = true := by kernel_rfl
theorem targs3_0 (x : Option (Nat × Nat)) (l c : Nat) (how m : Int) : obind (q5 x l c how m 0) (evArgs g3 9) = some [i64 how, i64 4] := by kernel_rfl
theorem targs3_1 (x : Option (Nat × Nat)) (l c : Nat) (how m : Int) : obind (q5 x l c how m 1) (evArgs g3 9) = some [i64 how, i64 4] := by kernel_rfl
theorem targs3_2 (x : Option (Nat × Nat)) (l c : Nat) (how m : Int) : obind (q5 x l c how m 2) (evArgs g3 9) = some [i64 how, i64 4] := by kernel_rfl
theorem targs3_3 (x : Option (Nat × Nat)) (l c : Nat) (how m : Int) : obind (q5 x l c how m 3) (evArgs g3 9) = some [i64 how, i64 4] := by kernel_rfl
theorem targs3_4 (x : Option (Nat × Nat)) (l c : Nat) (how m : Int) : obind (q5 x l c how m 4) (evArgs g3 9) = some [i64 how, i64 4] := by kernel_rfl
theorem targs3_5 (x : Option (Nat × Nat)) (l c : Nat) (how m : Int) : obind (q5 x l c how m 5) (evArgs g3 9) = some [i64 how, i64 4] := by kernel_rfl
theorem targs3_6 (x : Option (Nat × Nat)) (l c : Nat) (how m : Int) : obind (q5 x l c how m 6) (evArgs g3 9) = some [i64 how, i64 4] := by kernel_rfl
theorem targs3_7 (x : Option (Nat × Nat)) (l c : Nat) (how m : Int) : obind (q5 x l c how m 7) (evArgs g3 9) = some [i64 how, i64 4] := by kernel_rfl
theorem targs3 (x : Option (Nat × Nat)) (l c : Nat) (how m : Int) {r1 : Int} (h : 0 ≤ r1 ∧ r1 < 8) : obind (q5 x l c how m r1) (evArgs g3 9) = some [i64 how, i64 4] := by
  have : r1 = 0 ∨ r1 = 1 ∨ r1 = 2 ∨ r1 = 3 ∨ r1 = 4 ∨ r1 = 5 ∨ r1 = 6 ∨ r1 = 7 := by omega
  rcases this with rfl | rfl | rfl | rfl | rfl | rfl | rfl | rfl
  · exact targs3_0 x l c how m
  · exact targs3_1 x l c how m
  · exact targs3_2 x l c how m
  · exact targs3_3 x l c how m
  · exact targs3_4 x l c how m
  · exact targs3_5 x l c how m
  · exact targs3_6 x l c how m
  · exact targs3_7 x l c how m
theorem b8_eq : b8 = .seq (.region 0 ⟨g0⟩ false) (.seq (.region 1 ⟨g1⟩ false) (.seq (.region 2 ⟨g2⟩ false) (.seq (.region 3 ⟨g3⟩ false) (.seq (.region 4 ⟨g4⟩ false) (.seq (.region 5 ⟨g5⟩ true) .ret))))) := by kernel_rfl
theorem body8 : Tryz.f8.body = some b8 := by kernel_rfl
theorem g1_len : g1.length = 3 + (4 + 1) := by kernel_rfl
theorem g3_len : g3.length = 9 + (2 + 1) := by kernel_rfl
theorem all8 (x : Option (Nat × Nat)) (l c : Nat) (how m : Int) {r1 r2 : Int} (h1 : 0 ≤ r1 ∧ r1 < 8) (h2 : 0 ≤ r2 ∧ r2 < 4) : ok8 m (q8 x l c how m r1 r2) = true := by
  have e2 : r2 ∈ r2s := by
    have : r2 = 0 ∨ r2 = 1 ∨ r2 = 2 ∨ r2 = 3 := by omega
    rcases this with rfl | rfl | rfl | rfl <;> decide
  have : r1 = 0 ∨ r1 = 1 ∨ r1 = 2 ∨ r1 = 3 ∨ r1 = 4 ∨ r1 = 5 ∨ r1 = 6 ∨ r1 = 7 := by omega
  rcases this with rfl | rfl | rfl | rfl | rfl | rfl | rfl | rfl
  · exact (lall_iff _ _).1 (k8_0 x l c how m) r2 e2
  · exact (lall_iff _ _).1 (k8_1 x l c how m) r2 e2
  · exact (lall_iff _ _).1 (k8_2 x l c how m) r2 e2
  · exact (lall_iff _ _).1 (k8_3 x l c how m) r2 e2
  · exact (lall_iff _ _).1 (k8_4 x l c how m) r2 e2
  · exact (lall_iff _ _).1 (k8_5 x l c how m) r2 e2
  · exact (lall_iff _ _).1 (k8_6 x l c how m) r2 e2
  · exact (lall_iff _ _).1 (k8_7 x l c how m) r2 e2
def HC : Prop := ∀ (s sub : ByteArray) (m : Int) (w : World), s.size < 4294967281 → w.cell? ⟨2, 0, none⟩ = some (.int .i64 m) → Calls Tryz.prog 165 #[.string s, .string sub] w fun e w' => e = .returned (.int .i64 (Lib.index s.data.toList sub.data.toList)) ∧ w' = w
theorem roundEnt : ∃ fn, Tryz.prog.funcs[11]? = some fn ∧ (fn.name == "runtime.NumGoroutine") = false ∧ fn.body.isNone = false := ⟨Tryz.f11, by kernel_rfl, by kernel_rfl, by kernel_rfl⟩
theorem lget_arr {l : List Oper} {k : Nat} {o : Oper} (h : lget l k = some o) : (⟨l⟩ : Array Oper)[k]? = some o := by
  rw [lget_eq] at h
  simpa using h
theorem titles_ok (hc : HC) {x : Option (Nat × Nat)} {m : Int} {l c : Nat} {how : Int} (hm : MemOk Tryz.prog ρ D (kMem m) Pr sT w) (hD : (lArg x l c).inD D) :
    Calls Tryz.prog 8 ⟨toVs ρ [lArg x l c, i64 how]⟩ w fun e w' => e = .returned (.bool true) ∧ Keeps Pr w w' := by
  have hN := envOk hc
  have hrec := recA_ok hc 3000
  have hfn : Tryz.f8.ntmps = 71 := by kernel_rfl
  have hf0 := enterF (ρ := ρ) (D := D) env0Ok hfn (vs := [lArg x l c, i64 how]) (by show 2 ≤ 71; omega) ⟨hD, trivial, trivial⟩
  have b1 := roundR_lt (v := xArg x l c how m) (n := 8) (by omega)
  have b2 := roundR_lt (v := how) (n := 4) (by omega)
  obtain ⟨p8, e8, hd8, hr8⟩ := ok8_some (all8 x l c how m b1 b2)
  obtain ⟨p7, e7, d8⟩ := obind_some e8
  obtain ⟨p6, e6, d7⟩ := go_some e7
  obtain ⟨p5', e5', d6⟩ := go_some e6
  obtain ⟨p5, e5, u5, v5⟩ := putT_some e5'
  obtain ⟨p4, e4, d5⟩ := go_some e5
  obtain ⟨p3, e3, d4⟩ := go_some e4
  obtain ⟨p2', e2', d3⟩ := go_some e3
  obtain ⟨p2, e2, u2, v2⟩ := putT_some e2'
  obtain ⟨p1, e1, d2⟩ := go_some e2
  obtain ⟨p0, e0, d1⟩ := go_some e1
  obtain rfl := Option.some.inj e0
  obtain ⟨o1, as1, ts1, i1, gd1, ds1, op1, ev1⟩ := chk_some chk1
  obtain ⟨o3, as3, ts3, i3, gd3, ds3, op3, ev3⟩ := chk_some chk3
  have a1 := targs1 x l c how m
  rw [e2] at a1
  have a1 : evArgs g1 3 p2 = _ := a1
  rw [ev1] at a1
  have a3 := targs3 x l c how m b1
  rw [e5] at a3
  have a3 : evArgs g3 9 p5 = _ := a3
  rw [ev3] at a3
  rw [ltake_eq] at d2 d5
  rw [ldrop_eq] at d3 d6
  rw [v2] at d3
  rw [v5] at d6
  rw [← ds1] at u2
  rw [← ds3] at u5
  refine calls_of_wp_defers (fn := Tryz.f8) (by kernel_rfl) body8 ?_
  rw [b8_eq]
  refine wp_seq (wp_plain hN hrec hm hf0 (ops := ⟨g0⟩) (p := p1) d1 fun x1 w1 ρ1 D1 h1 => ?_)
  refine wp_seq (wp_split hN hrec (ops := ⟨g1⟩) 3 4 g1_len h1.mem h1.fr d2 (lget_arr i1) gd1 op1 roundEnt a1 (fun ρ D w hm => round_ok hm (.inl rfl)) u2 d3 fun x2 w2 ρ2 D2 h2 => ?_)
  have h12 := h1.trans h2
  refine wp_seq (wp_plain hN hrec h12.mem h12.fr (ops := ⟨g2⟩) d4 fun x3 w3 ρ3 D3 h3 => ?_)
  have h13 := h12.trans h3
  refine wp_seq (wp_split hN hrec (ops := ⟨g3⟩) 9 2 g3_len h13.mem h13.fr d5 (lget_arr i3) gd3 op3 roundEnt a3 (fun ρ D w hm => round_ok hm (.inr rfl)) u5 d6 fun x4 w4 ρ4 D4 h4 => ?_)
  have h14 := h13.trans h4
  refine wp_seq (wp_plain hN hrec h14.mem h14.fr (ops := ⟨g4⟩) d7 fun x5 w5 ρ5 D5 h5 => ?_)
  have h15 := h14.trans h5
  refine wp_seq (wp_drawn hN hrec h15.mem h15.fr (ops := ⟨g5⟩) d8 fun x6 w6 ρ6 D6 h6 => wp_ret ?_)
  have hZ := h15.trans h6
  refine ret_leaves (E := env) (vs := [.bool true]) hN.toTysOk hZ.mem hZ.fr hd8 hr8 fun _ => ?_
  exact ⟨rfl, hZ.keeps⟩
end
end Go.Ev
