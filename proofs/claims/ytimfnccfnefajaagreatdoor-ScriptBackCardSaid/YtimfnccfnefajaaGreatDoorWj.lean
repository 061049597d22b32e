/- Equality of events; the word of a field; the form of a kind. -/
import Derived.Test.YtimfnccfnefajaaGreatDoorWi
set_option linter.unusedSimpArgs false
set_option linter.unusedVariables false
namespace Go.Proofs
open Go.RowKit Go.Sp
theorem EBlk.two (w : World) (a b : Ev) (g h : Value) : EBlk ((w.alloc (.cells (ecells a g) 33)).alloc (.cells (ecells b h) 33)) w.heap.size a g ∧ EBlk ((w.alloc (.cells (ecells a g) 33)).alloc (.cells (ecells b h) 33)) (w.heap.size + 1) b h ∧ Below w.heap.size w ((w.alloc (.cells (ecells a g) 33)).alloc (.cells (ecells b h) 33)) := by
  have h1 := EBlk.new w a g
  have b2 : Below (w.alloc (.cells (ecells a g) 33)).heap.size (w.alloc (.cells (ecells a g) 33)) ((w.alloc (.cells (ecells a g) 33)).alloc (.cells (ecells b h) 33)) := (Below.refl _ _).alloc (Nat.le_refl _) _
  have b1 : Below w.heap.size w (w.alloc (.cells (ecells a g) 33)) := (Below.refl _ _).alloc (Nat.le_refl _) _
  have h2 := EBlk.new (w.alloc (.cells (ecells a g) 33)) b h
  rw [show (w.alloc (.cells (ecells a g) 33)).heap.size = w.heap.size + 1 from by simp] at h2
  exact ⟨h1.below h1.lt b2, h2, b1.trans (b2.mono b1.size)⟩
theorem ev_cases (a b : Ev) : a = b ∨ (a ≠ b ∧ ((¬ a.kind = b.kind) ∨ (a.kind = b.kind ∧ ¬ a.user = b.user) ∨ (a.kind = b.kind ∧ a.user = b.user ∧ ¬ a.note = b.note) ∨ (a.kind = b.kind ∧ a.user = b.user ∧ a.note = b.note ∧ ¬ a.tSp = b.tSp) ∨ (a.kind = b.kind ∧ a.user = b.user ∧ a.note = b.note ∧ a.tSp = b.tSp ∧ ¬ a.tN = b.tN) ∨ (a.kind = b.kind ∧ a.user = b.user ∧ a.note = b.note ∧ a.tSp = b.tSp ∧ a.tN = b.tN ∧ ¬ a.oSp = b.oSp) ∨ (a.kind = b.kind ∧ a.user = b.user ∧ a.note = b.note ∧ a.tSp = b.tSp ∧ a.tN = b.tN ∧ a.oSp = b.oSp ∧ ¬ a.oN = b.oN) ∨ (a.kind = b.kind ∧ a.user = b.user ∧ a.note = b.note ∧ a.tSp = b.tSp ∧ a.tN = b.tN ∧ a.oSp = b.oSp ∧ a.oN = b.oN ∧ ¬ a.text = b.text) ∨ (a.kind = b.kind ∧ a.user = b.user ∧ a.note = b.note ∧ a.tSp = b.tSp ∧ a.tN = b.tN ∧ a.oSp = b.oSp ∧ a.oN = b.oN ∧ a.text = b.text ∧ ¬ a.base = b.base) ∨ (a.kind = b.kind ∧ a.user = b.user ∧ a.note = b.note ∧ a.tSp = b.tSp ∧ a.tN = b.tN ∧ a.oSp = b.oSp ∧ a.oN = b.oN ∧ a.text = b.text ∧ a.base = b.base ∧ ¬ a.n = b.n) ∨ (a.kind = b.kind ∧ a.user = b.user ∧ a.note = b.note ∧ a.tSp = b.tSp ∧ a.tN = b.tN ∧ a.oSp = b.oSp ∧ a.oN = b.oN ∧ a.text = b.text ∧ a.base = b.base ∧ a.n = b.n ∧ ¬ a.hist = b.hist))) := by
  by_cases h : a = b
  · exact .inl h
  · refine .inr ⟨h, ?_⟩
    obtain ⟨a1, a2, a3, a4, a5, a6, a7, a8, a9, a10, a11⟩ := a
    obtain ⟨b1, b2, b3, b4, b5, b6, b7, b8, b9, b10, b11⟩ := b
    simp only [Ev.mk.injEq] at h
    simp only
    by_cases h1 : a1 = b1
    case neg => exact .inl h1
    by_cases h2 : a2 = b2
    case neg => exact .inr (.inl ⟨h1, h2⟩)
    by_cases h3 : a3 = b3
    case neg => exact .inr (.inr (.inl ⟨h1, h2, h3⟩))
    by_cases h4 : a4 = b4
    case neg => exact .inr (.inr (.inr (.inl ⟨h1, h2, h3, h4⟩)))
    by_cases h5 : a5 = b5
    case neg => exact .inr (.inr (.inr (.inr (.inl ⟨h1, h2, h3, h4, h5⟩))))
    by_cases h6 : a6 = b6
    case neg => exact .inr (.inr (.inr (.inr (.inr (.inl ⟨h1, h2, h3, h4, h5, h6⟩)))))
    by_cases h7 : a7 = b7
    case neg => exact .inr (.inr (.inr (.inr (.inr (.inr (.inl ⟨h1, h2, h3, h4, h5, h6, h7⟩))))))
    by_cases h8 : a8 = b8
    case neg => exact .inr (.inr (.inr (.inr (.inr (.inr (.inr (.inl ⟨h1, h2, h3, h4, h5, h6, h7, h8⟩)))))))
    by_cases h9 : a9 = b9
    case neg => exact .inr (.inr (.inr (.inr (.inr (.inr (.inr (.inr (.inl ⟨h1, h2, h3, h4, h5, h6, h7, h8, h9⟩))))))))
    by_cases h10 : a10 = b10
    case neg => exact .inr (.inr (.inr (.inr (.inr (.inr (.inr (.inr (.inr (.inl ⟨h1, h2, h3, h4, h5, h6, h7, h8, h9, h10⟩)))))))))
    exact .inr (.inr (.inr (.inr (.inr (.inr (.inr (.inr (.inr (.inr (⟨h1, h2, h3, h4, h5, h6, h7, h8, h9, h10, fun h11 => h ⟨h1, h2, h3, h4, h5, h6, h7, h8, h9, h10, h11⟩⟩))))))))))
set_option maxRecDepth 100000 in
set_option maxHeartbeats 4000000 in
theorem event_equal (a b : Ev) (A B : Option Addr) (c d : Nat) (w : World) (hmx : a.hist.length ≤ 9223372036854775807) (hA : HRd w A a.hist) (hB : HRd w B b.hist) : Calls Tryz.prog 42 #[evV a (.slice A a.hist.length c), evV b (.slice B b.hist.length d)] w (RetB (.bool (decide (a = b))) w) := by
  obtain ⟨h1, h2, hb⟩ := EBlk.two w a b (.slice A a.hist.length c) (.slice B b.hist.length d)
  have hE := equal_revs A B c d a.hist b.hist _ hmx (hA.below hb) (hB.below hb)
  unfold evV
  unfold ecells at *
  go_enter Tryz.func42, Tryz.ntmps42
  go_upto_region 1 with fail
  generalize (w.alloc _).alloc _ = W at *
  clear hA hB hmx
  have oa0 := h1.c0
  have oa1 := h1.c1
  have oa2 := h1.c2
  have oa3 := h1.c3
  have oa4 := h1.c4
  have oa5 := h1.c5
  have oa6 := h1.c6
  have oa7 := h1.c7
  have oa8 := h1.c8
  have oa9 := h1.c9
  have oa10 := h1.c10
  have ob0 := h2.c0
  have ob1 := h2.c1
  have ob2 := h2.c2
  have ob3 := h2.c3
  have ob4 := h2.c4
  have ob5 := h2.c5
  have ob6 := h2.c6
  have ob7 := h2.c7
  have ob8 := h2.c8
  have ob9 := h2.c9
  have ob10 := h2.c10
  have hp := h1.lt
  have hq := h2.lt
  clear h1 h2
  generalize hP : w.heap.size = p at *
  have HP := Lib.hid hP
  clear hP
  go_wp2_with (go_at_call 67; refine hE.mono ?_)
  rintro e W1 ⟨rfl, b1'⟩
  have a0 := (b1'.cell (p := ⟨p, 0, none⟩) (by exact hp)).trans oa0
  have a1 := (b1'.cell (p := ⟨p, 1, none⟩) (by exact hp)).trans oa1
  have a2 := (b1'.cell (p := ⟨p, 2, none⟩) (by exact hp)).trans oa2
  have a3 := (b1'.cell (p := ⟨p, 3, none⟩) (by exact hp)).trans oa3
  have a4 := (b1'.cell (p := ⟨p, 4, none⟩) (by exact hp)).trans oa4
  have a5 := (b1'.cell (p := ⟨p, 5, none⟩) (by exact hp)).trans oa5
  have a6 := (b1'.cell (p := ⟨p, 6, none⟩) (by exact hp)).trans oa6
  have a7 := (b1'.cell (p := ⟨p, 7, none⟩) (by exact hp)).trans oa7
  have a8 := (b1'.cell (p := ⟨p, 8, none⟩) (by exact hp)).trans oa8
  have a9 := (b1'.cell (p := ⟨p, 9, none⟩) (by exact hp)).trans oa9
  have a10 := (b1'.cell (p := ⟨p, 10, none⟩) (by exact hp)).trans oa10
  have b0 := (b1'.cell (p := ⟨p + 1, 0, none⟩) (by exact hq)).trans ob0
  have b1 := (b1'.cell (p := ⟨p + 1, 1, none⟩) (by exact hq)).trans ob1
  have b2 := (b1'.cell (p := ⟨p + 1, 2, none⟩) (by exact hq)).trans ob2
  have b3 := (b1'.cell (p := ⟨p + 1, 3, none⟩) (by exact hq)).trans ob3
  have b4 := (b1'.cell (p := ⟨p + 1, 4, none⟩) (by exact hq)).trans ob4
  have b5 := (b1'.cell (p := ⟨p + 1, 5, none⟩) (by exact hq)).trans ob5
  have b6 := (b1'.cell (p := ⟨p + 1, 6, none⟩) (by exact hq)).trans ob6
  have b7 := (b1'.cell (p := ⟨p + 1, 7, none⟩) (by exact hq)).trans ob7
  have b8 := (b1'.cell (p := ⟨p + 1, 8, none⟩) (by exact hq)).trans ob8
  have b9 := (b1'.cell (p := ⟨p + 1, 9, none⟩) (by exact hq)).trans ob9
  have b10 := (b1'.cell (p := ⟨p + 1, 10, none⟩) (by exact hq)).trans ob10
  have hb2 := hb.trans (b1'.mono (Nat.le_of_lt hp))
  clear hE b1' hb oa0 ob0 oa1 ob1 oa2 ob2 oa3 ob3 oa4 ob4 oa5 ob5 oa6 ob6 oa7 ob7 oa8 ob8 oa9 ob9 oa10 ob10
  by_cases hh : a.hist = b.hist
  · rw [decide_eq_true hh]
    rcases ev_cases a b with rfl | ⟨hne, hcs⟩
    · have HD := Lib.hid (show decide (a = a) = true by simp)
      clear hh
      go_wp2
      go_ret
      exact ⟨by rw [HD.out]; rfl, by rw [HP.out]; exact hb2⟩
    · have HD := Lib.hid (decide_eq_false hne)
      clear hne
      rcases hcs with q1 | ⟨q1, q2⟩ | ⟨q1, q2, q3⟩ | ⟨q1, q2, q3, q4⟩ | ⟨q1, q2, q3, q4, q5⟩ | ⟨q1, q2, q3, q4, q5, q6⟩ | ⟨q1, q2, q3, q4, q5, q6, q7⟩ | ⟨q1, q2, q3, q4, q5, q6, q7, q8⟩ | ⟨q1, q2, q3, q4, q5, q6, q7, q8, q9⟩ | ⟨q1, q2, q3, q4, q5, q6, q7, q8, q9, q10⟩ | ⟨q1, q2, q3, q4, q5, q6, q7, q8, q9, q10, q11⟩
      all_goals first
        | exact absurd hh (by assumption)
        | (clear hh
           go_wp2
           go_ret
           exact ⟨by rw [HD.out]; first | rfl | exact congrArg (fun x => Ending.returned (Value.bool x)) (beq_eq_false_iff_ne.2 (by assumption)), by rw [HP.out]; exact hb2⟩)
  · have HD := Lib.hid (show decide (a = b) = false from decide_eq_false (fun h => hh (by rw [h])))
    rw [decide_eq_false hh]
    clear hh
    go_wp2
    go_ret
    exact ⟨by rw [HD.out]; rfl, by rw [HP.out]; exact hb2⟩
set_option maxRecDepth 100000 in
set_option maxHeartbeats 4000000 in
theorem event_same (a b : Ev) (A B : Option Addr) (c d : Nat) (w : World) (hmx : a.hist.length ≤ 9223372036854775807) (hA : HRd w A a.hist) (hB : HRd w B b.hist) : Calls Tryz.prog 21 #[evV a (.slice A a.hist.length c), evV b (.slice B b.hist.length d)] w (RetB (.bool (decide (a = b))) w) := by
  obtain ⟨h1, h2, hb⟩ := EBlk.two w a b (.slice A a.hist.length c) (.slice B b.hist.length d)
  have hE := same_revs A B c d a.hist b.hist _ hmx (hA.below hb) (hB.below hb)
  unfold evV
  unfold ecells at *
  go_enter Tryz.func21, Tryz.ntmps21
  go_upto_region 1 with fail
  generalize (w.alloc _).alloc _ = W at *
  clear hA hB hmx
  have a0 := h1.c0
  have a1 := h1.c1
  have a2 := h1.c2
  have a3 := h1.c3
  have a4 := h1.c4
  have a5 := h1.c5
  have a6 := h1.c6
  have a7 := h1.c7
  have a8 := h1.c8
  have a9 := h1.c9
  have a10 := h1.c10
  have b0 := h2.c0
  have b1 := h2.c1
  have b2 := h2.c2
  have b3 := h2.c3
  have b4 := h2.c4
  have b5 := h2.c5
  have b6 := h2.c6
  have b7 := h2.c7
  have b8 := h2.c8
  have b9 := h2.c9
  have b10 := h2.c10
  have hp := h1.lt
  clear h1 h2
  generalize hP : w.heap.size = p at *
  have HP := Lib.hid hP
  clear hP
  rcases ev_cases a b with rfl | ⟨hne, hcs⟩
  · have HD := Lib.hid (show decide (a = a) = true by simp)
    go_wp2_with (go_at_call 45; refine hE.mono ?_)
    rintro e W1 ⟨rfl, b1'⟩
    have hb2 := hb.trans (b1'.mono (Nat.le_of_lt hp))
    have hd : decide (a.hist = a.hist) = true := by simp
    clear hE b1' hb
    go_wp2
    go_ret
    exact ⟨by rw [HD.out]; simp, by rw [HP.out]; exact hb2⟩
  · have HD := Lib.hid (decide_eq_false hne)
    clear hne
    rcases hcs with q1 | ⟨q1, q2⟩ | ⟨q1, q2, q3⟩ | ⟨q1, q2, q3, q4⟩ | ⟨q1, q2, q3, q4, q5⟩ | ⟨q1, q2, q3, q4, q5, q6⟩ | ⟨q1, q2, q3, q4, q5, q6, q7⟩ | ⟨q1, q2, q3, q4, q5, q6, q7, q8⟩ | ⟨q1, q2, q3, q4, q5, q6, q7, q8, q9⟩ | ⟨q1, q2, q3, q4, q5, q6, q7, q8, q9, q10⟩ | ⟨q1, q2, q3, q4, q5, q6, q7, q8, q9, q10, q11⟩
    case inr.inr.inr.inr.inr.inr.inr.inr.inr.inr.inr =>
      have hd := decide_eq_false q11
      rw [hd] at hE
      clear q11 hd
      go_wp2_with (go_at_call 45; refine hE.mono ?_)
      rintro e W1 ⟨rfl, b1'⟩
      have hb2 := hb.trans (b1'.mono (Nat.le_of_lt hp))
      clear hE b1' hb
      go_wp2
      go_ret
      exact ⟨by rw [HD.out]; rfl, by rw [HP.out]; exact hb2⟩
    all_goals
      clear hE
      go_wp2
      go_ret
      exact ⟨by rw [HD.out]; first | rfl | exact congrArg (fun x => Ending.returned (Value.bool x)) (beq_eq_false_iff_ne.2 (by assumption)), by rw [HP.out]; exact hb⟩
end Go.Proofs
namespace Go.Proofs
open Go.RowKit Go.Sp
/-- The strings and numbers of an event that can be written. -/
structure EvFit (e : Ev) : Prop where
  user : e.user.length < 4294960000
  note : e.note.length < 4294960000
  text : e.text.length < 4294960000
  tN : e.tN.length < 4294960000
  oN : e.oN.length < 4294960000
  b0 : -9223372036854775808 ≤ e.base
  b1 : e.base ≤ 9223372036854775807
  n0 : -9223372036854775808 ≤ e.n
  n1 : e.n ≤ 9223372036854775807
theorem writeL (s : Bs) (w : World) (hs : s.length < 4294960000) : Calls Tryz.prog 39 #[.string ⟨s.toArray⟩] w (RetB (.string ⟨(wr s).toArray⟩) w) := write_ok ⟨s.toArray⟩ w (by show s.length ≤ _; omega)
theorem writeTL (sp : Int) (n : Bs) (w : World) (hs : n.length < 4294960000) (hg : GlN w) : Calls Tryz.prog 57 #[.agg #[.int .i64 sp, .string ⟨n.toArray⟩]] w (RetB (.string ⟨(wr (fmt sp n)).toArray⟩) w) := writeTitle_ok sp ⟨n.toArray⟩ w (by show n.length < _; omega) hg.toGl
theorem EBlk.one (w : World) (a : Ev) (g : Value) : EBlk (w.alloc (.cells (ecells a g) 33)) w.heap.size a g ∧ Below w.heap.size w (w.alloc (.cells (ecells a g) 33)) := ⟨EBlk.new w a g, (Below.refl _ _).alloc (Nat.le_refl _) _⟩
set_option maxRecDepth 100000 in
set_option maxHeartbeats 4000000 in
theorem put_user (e : Ev) (h : Value) (w : World) (he : EvFit e) (hg : GlN w) : Calls Tryz.prog 38 #[evV e h, .int .i32 117] w (RetB (.string ⟨(wordF e .user).toArray⟩) w) := by
  obtain ⟨h1, hb⟩ := EBlk.one w e h
  have hg1 := hg.below hb
  unfold evV wordF
  unfold ecells at *
  go_enter Tryz.func38, Tryz.ntmps38
  go_upto_region 1 with fail
  generalize w.alloc _ = W at *
  have c1 := h1.c1
  have hlt := h1.lt
  have hR := writeL e.user W he.user
  clear h1 hg1 hg he
  go_wp2_with (go_at_call 39; refine hR.mono ?_)
  rintro e W1 ⟨rfl, b1⟩
  have hb1 := hb.trans (b1.mono (Nat.le_of_lt hlt))
  clear hR b1 hb
  go_wp2
  go_ret
  exact ⟨rfl, hb1⟩
set_option maxRecDepth 100000 in
set_option maxHeartbeats 4000000 in
theorem put_text (e : Ev) (h : Value) (w : World) (he : EvFit e) (hg : GlN w) : Calls Tryz.prog 38 #[evV e h, .int .i32 120] w (RetB (.string ⟨(wordF e .text).toArray⟩) w) := by
  obtain ⟨h1, hb⟩ := EBlk.one w e h
  have hg1 := hg.below hb
  unfold evV wordF
  unfold ecells at *
  go_enter Tryz.func38, Tryz.ntmps38
  go_upto_region 1 with fail
  generalize w.alloc _ = W at *
  have c7 := h1.c7
  have hlt := h1.lt
  have hR := writeL e.text W he.text
  clear h1 hg1 hg he
  go_wp2_with (go_at_call 39; refine hR.mono ?_)
  rintro e W1 ⟨rfl, b1⟩
  have hb1 := hb.trans (b1.mono (Nat.le_of_lt hlt))
  clear hR b1 hb
  go_wp2
  go_ret
  exact ⟨rfl, hb1⟩
set_option maxRecDepth 100000 in
set_option maxHeartbeats 4000000 in
theorem put_note (e : Ev) (h : Value) (w : World) (he : EvFit e) (hg : GlN w) : Calls Tryz.prog 38 #[evV e h, .int .i32 110] w (RetB (.string ⟨(wordF e .note).toArray⟩) w) := by
  obtain ⟨h1, hb⟩ := EBlk.one w e h
  have hg1 := hg.below hb
  unfold evV wordF
  unfold ecells at *
  go_enter Tryz.func38, Tryz.ntmps38
  go_upto_region 1 with fail
  generalize w.alloc _ = W at *
  have c2 := h1.c2
  have hlt := h1.lt
  have hR := writeL e.note W he.note
  clear h1 hg1 hg he
  go_wp2_with (go_at_call 39; refine hR.mono ?_)
  rintro e W1 ⟨rfl, b1⟩
  have hb1 := hb.trans (b1.mono (Nat.le_of_lt hlt))
  clear hR b1 hb
  go_wp2
  go_ret
  exact ⟨rfl, hb1⟩
set_option maxRecDepth 100000 in
set_option maxHeartbeats 4000000 in
theorem put_title (e : Ev) (h : Value) (w : World) (he : EvFit e) (hg : GlN w) : Calls Tryz.prog 38 #[evV e h, .int .i32 116] w (RetB (.string ⟨(wordF e .title).toArray⟩) w) := by
  obtain ⟨h1, hb⟩ := EBlk.one w e h
  have hg1 := hg.below hb
  unfold evV wordF
  unfold ecells at *
  go_enter Tryz.func38, Tryz.ntmps38
  go_upto_region 1 with fail
  generalize w.alloc _ = W at *
  have c3 := h1.c3
  have c4 := h1.c4
  have hlt := h1.lt
  have hR := writeTL e.tSp e.tN W he.tN hg1
  clear h1 hg1 hg he
  go_wp2_with (go_at_call 57; refine hR.mono ?_)
  rintro e W1 ⟨rfl, b1⟩
  have hb1 := hb.trans (b1.mono (Nat.le_of_lt hlt))
  clear hR b1 hb
  go_wp2
  go_ret
  exact ⟨rfl, hb1⟩
set_option maxRecDepth 100000 in
set_option maxHeartbeats 4000000 in
theorem put_to (e : Ev) (h : Value) (w : World) (he : EvFit e) (hg : GlN w) : Calls Tryz.prog 38 #[evV e h, .int .i32 111] w (RetB (.string ⟨(wordF e .«to»).toArray⟩) w) := by
  obtain ⟨h1, hb⟩ := EBlk.one w e h
  have hg1 := hg.below hb
  unfold evV wordF
  unfold ecells at *
  go_enter Tryz.func38, Tryz.ntmps38
  go_upto_region 1 with fail
  generalize w.alloc _ = W at *
  have c5 := h1.c5
  have c6 := h1.c6
  have hlt := h1.lt
  have hR := writeTL e.oSp e.oN W he.oN hg1
  clear h1 hg1 hg he
  go_wp2_with (go_at_call 57; refine hR.mono ?_)
  rintro e W1 ⟨rfl, b1⟩
  have hb1 := hb.trans (b1.mono (Nat.le_of_lt hlt))
  clear hR b1 hb
  go_wp2
  go_ret
  exact ⟨rfl, hb1⟩
set_option maxRecDepth 100000 in
set_option maxHeartbeats 4000000 in
theorem put_base (e : Ev) (h : Value) (w : World) (he : EvFit e) (hg : GlN w) : Calls Tryz.prog 38 #[evV e h, .int .i32 98] w (RetB (.string ⟨(wordF e .base).toArray⟩) w) := by
  obtain ⟨h1, hb⟩ := EBlk.one w e h
  have hg1 := hg.below hb
  unfold evV wordF
  unfold ecells at *
  go_enter Tryz.func38, Tryz.ntmps38
  go_upto_region 1 with fail
  generalize w.alloc _ = W at *
  have c8 := h1.c8
  have hlt := h1.lt
  have hR := itoaL e.base W he.b0 he.b1 hg1
  clear h1 hg1 hg he
  go_wp2_with (go_at_call 58; refine hR.mono ?_)
  rintro e W1 ⟨rfl, b1⟩
  have hb1 := hb.trans (b1.mono (Nat.le_of_lt hlt))
  clear hR b1 hb
  go_wp2
  go_ret
  exact ⟨rfl, hb1⟩
set_option maxRecDepth 100000 in
set_option maxHeartbeats 4000000 in
theorem put_num (e : Ev) (h : Value) (w : World) (he : EvFit e) (hg : GlN w) : Calls Tryz.prog 38 #[evV e h, .int .i32 78] w (RetB (.string ⟨(wordF e .num).toArray⟩) w) := by
  obtain ⟨h1, hb⟩ := EBlk.one w e h
  have hg1 := hg.below hb
  unfold evV wordF
  unfold ecells at *
  go_enter Tryz.func38, Tryz.ntmps38
  go_upto_region 1 with fail
  generalize w.alloc _ = W at *
  have c9 := h1.c9
  have hlt := h1.lt
  have hR := itoaL e.n W he.n0 he.n1 hg1
  clear h1 hg1 hg he
  go_wp2_with (go_at_call 58; refine hR.mono ?_)
  rintro e W1 ⟨rfl, b1⟩
  have hb1 := hb.trans (b1.mono (Nat.le_of_lt hlt))
  clear hR b1 hb
  go_wp2
  go_ret
  exact ⟨rfl, hb1⟩
theorem put_ok (f : Fld) (hf : f ≠ .many) (e : Ev) (h : Value) (w : World) (he : EvFit e) (hg : GlN w) : Calls Tryz.prog 38 #[evV e h, .int .i32 (runeF f)] w (RetB (.string ⟨(wordF e f).toArray⟩) w) := by
  cases f
  case many => exact absurd rfl hf
  case user => exact put_user e h w he hg
  case text => exact put_text e h w he hg
  case note => exact put_note e h w he hg
  case title => exact put_title e h w he hg
  case «to» => exact put_to e h w he hg
  case base => exact put_base e h w he hg
  case num => exact put_num e h w he hg
end Go.Proofs
namespace Go.Proofs
open Go.RowKit Go.Sp
set_option maxRecDepth 100000 in
set_option maxHeartbeats 4000000 in
theorem pred_kind (a b : Bs) (m : Int) (E : Nat) (k : Int) (w : World) (h1 : w.cell? ⟨E, 0, none⟩ = some (.int .i64 k)) (h2 : E < w.heap.size) : Calls Tryz.prog 37 #[.agg #[.string ⟨a.toArray⟩, .string ⟨b.toArray⟩, .int .i64 m], .pointer (some ⟨E, 0, none⟩)] w (RetB (.bool (m == k)) w) := by
  go_enter Tryz.func37, Tryz.ntmps37
  go_upto_region 1 with fail
  have hb := (Below.refl w.heap.size w).alloc (Nat.le_refl _) (.cells #[.string ⟨a.toArray⟩, .string ⟨b.toArray⟩, .int .i64 m] 79)
  have c0 : (w.alloc (.cells #[.string ⟨a.toArray⟩, .string ⟨b.toArray⟩, .int .i64 m] 79)).cell? ⟨w.heap.size, 2, none⟩ = some (.int .i64 m) := by simp [World.cell?, World.alloc, -World.alloc_eq]
  have c1 := (hb.cell (p := ⟨E, 0, none⟩) h2).trans h1
  generalize w.alloc (.cells #[.string ⟨a.toArray⟩, .string ⟨b.toArray⟩, .int .i64 m] 79) = W at *
  clear h1 h2
  go_wp2
  go_ret
  exact ⟨by simp, hb⟩
/-- The place of the form of this kind among those from k on, or -1. -/
def idxK (v : Int) : Nat → Nat → Int
  | 0, _ => -1
  | m + 1, k => if (formAt k).kind = v then (k : Int) else idxK v m (k + 1)
theorem idxK_succ (v : Int) (m k : Nat) : idxK v (m + 1) k = if (formAt k).kind = v then (k : Int) else idxK v m (k + 1) := rfl
theorem enter37 : ∀ args w, (callFunc 37 args).run Tryz.prog w = .ok (.enter 37 args) w := enters_of Tryz.func37 (by kernel_rfl) rfl
structure KidRel (w : World) (B E : Nat) (v : Int) (k : Nat) (r : Int) (wr : World) : Prop where
  below : Below w.heap.size w wr
  row : FRow wr B
  eq : r = idxK v (21 - k) k
set_option maxRecDepth 100000 in
set_option maxHeartbeats 4000000 in
theorem index_kind (B E : Nat) (v : Int) (w : World) (hB : B < w.heap.size) (h : FRow w B) (hv : w.cell? ⟨E, 0, none⟩ = some (.int .i64 v)) (hE : E < w.heap.size) : Calls Tryz.prog 36 #[.slice (some ⟨B, 0, none⟩) 21 21, .func (.func 37) #[] #[.pointer (some ⟨E, 0, none⟩)]] w (RetB (.int .i64 (idxK v 21 0)) w) := by
  have h0 : KidRel w B E v 0 (idxK v 21 0) w := ⟨Below.refl _ _, h, rfl⟩
  clear h
  have hen := enter37
  generalize idxK v 21 0 = r at *
  go_enter Tryz.func36, Tryz.ntmps36
  go_wp2
  go_loopw [8] (fun i wr => ∃ (k : Nat), k ≤ 21 ∧ i = .int .i64 k ∧ KidRel w B E v k r wr) (fun i _ => 21 - (intOf i).toNat)
  case atStart => exact ⟨0, Nat.zero_le _, rfl, h0⟩
  case round =>
    obtain ⟨k, hk, rfl, hI⟩ := hrel
    clear h0
    by_cases hlt : k < 21
    · have c0 := hI.row.verb k hlt
      have c1 := hI.row.kinds k hlt
      have c2 := hI.row.kind k hlt
      have hv1 := (hI.below.cell (p := ⟨E, 0, none⟩) hE).trans hv
      have hx := hI.below.size
      have hE1 := Nat.lt_of_lt_of_le hE hx
      have hP := pred_kind (formAt k).verb (kstr (formAt k)) (formAt k).kind E v wr hv1 hE1
      generalize (formAt k).verb = q1 at *
      generalize kstr (formAt k) = q2 at *
      generalize hq : (formAt k).kind = q at *
      rw [show 3 * k = k * 3 from by omega] at c0 c1 c2
      go_wp2_with (go_at_call 37; refine hP.mono ?_)
      rintro e W1 ⟨rfl, b1⟩
      have hrow := hI.row.below (Nat.lt_of_lt_of_le hB hx) b1
      have hbel := hI.below.trans (b1.mono hx)
      have heq := hI.eq
      clear hI c0 c1 c2 hP b1 hv1
      have hs : idxK v (21 - k) k = if q = v then (k : Int) else idxK v (21 - (k + 1)) (k + 1) := by
        rw [show 21 - k = (21 - (k + 1)) + 1 from by omega, idxK_succ, hq]
      by_cases hqv : q = v
      · have f1 : (q == v) = true := by simp [hqv]
        rw [if_pos hqv] at hs
        have HS := Lib.hid (hs.symm.trans heq.symm)
        clear hs heq hq hqv
        go_wp2
        go_ret
        exact ⟨by rw [← HS.out]; rfl, hbel⟩
      · have f1 : (q == v) = false := by simp [hqv]
        rw [if_neg hqv] at hs
        have HS := Lib.hid (heq.trans hs)
        clear hs heq hq hqv
        go_wp2
        go_roundw
        case rel => exact ⟨k + 1, by omega, by go_num, hbel, hrow, HS.out⟩
        case measure => simp [intOf]; omega
    · have hkn : k = 21 := by omega
      subst hkn
      go_wp2
      go_ret
      exact ⟨by rw [hI.eq]; rfl, hI.below⟩
theorem idxK_go (v : Int) : ∀ m k, m + k = 21 → (idxK v m k = -1 ∧ (forms.drop k).find? (fun f => f.kind == v) = none) ∨ ∃ i : Nat, i < 21 ∧ idxK v m k = (i : Int) ∧ (forms.drop k).find? (fun f => f.kind == v) = some (formAt i)
  | 0, k, h => .inl ⟨rfl, by rw [List.drop_eq_nil_of_le (by rw [show forms.length = 21 from rfl]; omega)]; rfl⟩
  | m + 1, k, h => by
    have hk : k < forms.length := by rw [show forms.length = 21 from rfl]; omega
    have hd : forms.drop k = formAt k :: forms.drop (k + 1) := by
      rw [List.drop_eq_getElem_cons hk]
      congr 1
      unfold formAt
      rw [List.getD_eq_getElem?_getD, List.getElem?_eq_getElem hk]; rfl
    rw [idxK_succ, hd, List.find?_cons]
    by_cases hv : (formAt k).kind = v
    · exact .inr ⟨k, by omega, by rw [if_pos hv], by rw [beq_iff_eq.2 hv]⟩
    · rw [if_neg hv, beq_eq_false_iff_ne.2 hv]
      exact idxK_go v m (k + 1) (by omega)
end Go.Proofs
