/- ScriptBack returns true and leaves what was there, where the listed variables are as the row says. -/
import Derived.Test.YtimfnccfnefajaaGreatDoorWn
import Derived.Test.YtimfnccfnefajaaGreatDoorWk
import Derived.Test.YtimfnccfnefajaaGreatDoorWb
set_option linter.unusedSimpArgs false
set_option linter.unusedVariables false
namespace Go.Proofs
open Go.RowKit Go.Sp
theorem can_kind {i : Nat} (hi : i < 21) {e : Ev} (h : CanWrite (formAt i) e) : e.kind = (i : Int) + 1 := by
  have h1 := h.kind
  have : i = 0 ∨ i = 1 ∨ i = 2 ∨ i = 3 ∨ i = 4 ∨ i = 5 ∨ i = 6 ∨ i = 7 ∨ i = 8 ∨ i = 9 ∨ i = 10 ∨ i = 11 ∨ i = 12 ∨ i = 13 ∨ i = 14 ∨ i = 15 ∨ i = 16 ∨ i = 17 ∨ i = 18 ∨ i = 19 ∨ i = 20 := by omega
  rcases this with rfl | rfl | rfl | rfl | rfl | rfl | rfl | rfl | rfl | rfl | rfl | rfl | rfl | rfl | rfl | rfl | rfl | rfl | rfl | rfl | rfl <;> exact h1
/-- What is written and read in ScriptBack. -/
def BackOk (z : Ev) : Prop := Small z ∧ ∃ f, CanWrite f z
theorem BackOk.of {y : Ev} (h : WrOk y) : BackOk y := by
  obtain ⟨i, _, hc⟩ := h.can
  have h1 := h.note
  have h2 := h.text
  exact ⟨⟨h.user, by omega, by omega, h.tN, h.oN, h.base, h.n, h.h3, h.ht⟩, _, hc⟩
theorem BackOk.edit {y : Ev} (h : WrOk y) (hk : y.kind = 1) (t n : Bs) (ht : t.length ≤ 1000) (hn : n.length ≤ 500) : BackOk { y with text := t, note := n } := by
  obtain ⟨i, hi, hc⟩ := h.can
  have h0 := can_kind hi hc
  obtain rfl : i = 0 := by omega
  exact ⟨⟨h.user, hn, ht, h.tN, h.oN, h.base, h.n, h.h3, h.ht⟩, _, can_text hc t n⟩
theorem BackOk.search {y : Ev} (h : WrOk y) (hk : y.kind = 16) (t : Bs) (ht : t.length ≤ 1000) : BackOk { y with text := t } := by
  obtain ⟨i, hi, hc⟩ := h.can
  have h0 := can_kind hi hc
  obtain rfl : i = 15 := by omega
  have h1 := h.note
  exact ⟨⟨h.user, by show y.note.length ≤ 500; omega, ht, h.tN, h.oN, h.base, h.n, h.h3, h.ht⟩, _, can_search hc t⟩
theorem BackOk.fit {z : Ev} (h : BackOk z) : EvFit z := by
  obtain ⟨k, _⟩ := h
  have h1 := k.user
  have h2 := k.note
  have h3 := k.text
  have h4 := k.tN
  have h5 := k.oN
  have h6 := k.base
  have h7 := k.n
  exact ⟨by omega, by omega, by omega, by omega, by omega, by omega, by omega, by omega, by omega⟩
/-- awake holds wherever the globals are as they were. -/
def AwOk (w : World) : Prop := ∀ W, Below w.heap.size w W → Calls Tryz.prog 9 #[] W (RetB (.bool true) W)
theorem writable_at (W : World) (sb : Nat) (h : SrcOk W sb) : Calls Tryz.prog 17 #[.pointer (some ⟨sb, 0, none⟩)] W (RetWr sb W) := writable_ok sb W h
/-- The event of ScriptBack, in block P. -/
structure Bk (w W : World) (P : Nat) (z : Ev) (A : Option Addr) (c : Nat) : Prop where
  below : Below w.heap.size w W
  evt : EBlk W P z (.slice A z.hist.length c)
  own : W.ownsRow (w.heap.size + 1) 66 6 (.slice A z.hist.length c) z.hist.length (hcells z.hist)
  le : w.heap.size < P
theorem Bk.step {w W W' : World} {P : Nat} {z : Ev} {A : Option Addr} {c : Nat} (k : Bk w W P z A c) (b : Below W.heap.size W W') : Bk w W' P z A c :=
  ⟨k.below.trans (b.mono k.below.size), k.evt.below k.evt.lt b, owns_below k.own b, k.le⟩
theorem format_at {w W : World} {P : Nat} {z : Ev} {A : Option Addr} {c : Nat} (k : Bk w W P z A c) (hz : BackOk z) (hg : GlN W) : ∃ s : Bs, s.length ≤ 20000 ∧ parseS s = ([z], 0, 0) ∧ parseS (s ++ [10]) = ([z], 0, 0) ∧ Calls Tryz.prog 19 #[evV z (.slice A z.hist.length c)] W (RetB (.tuple #[.string ⟨s.toArray⟩, .int .i64 0]) W) := by
  obtain ⟨f, hc⟩ := hz.2
  obtain ⟨s, h1, h2, h3, h4⟩ := back hc hz.1
  have h5 := hz.1.h3
  refine ⟨s, h2, h3, h4, (Format_ok z A c W hz.fit (by omega) (fun i => ?_) (owns_rd k.own).2 (fun f hf => ?_) hg).mono fun e W' he => ⟨?_, he.1⟩⟩
  · unfold rv
    by_cases hi : i < z.hist.length
    · rw [List.getD_eq_getElem?_getD, List.getElem?_eq_getElem hi]
      have := hz.1.ht _ (List.getElem_mem hi)
      show (z.hist[i]).text.length < _
      omega
    · rw [List.getD_eq_getElem?_getD, List.getElem?_eq_none (by omega)]; decide
  · have := text_len hf hz.1
    omega
  · rcases he.2 with ⟨s', h6, h7⟩ | ⟨h6, _⟩
    · rw [h1] at h6
      obtain rfl := Option.some.inj h6
      exact h7
    · rw [h1] at h6; cases h6
/-- One event is read. -/
def RetP1 (z : Ev) (w : World) (e : Ending) (w' : World) : Prop := Below w.heap.size w w' ∧ ∃ A c h, EvsRd w' A [(z, h)] ∧ e = .returned (.tuple #[.slice A 1 c, .int .i64 0, .int .i64 0])
theorem parse_at {W : World} {z : Ev} (t : ByteArray) (ht : t.size ≤ 20001) (hp : parseS t.data.toList = ([z], 0, 0)) (hg : GlN W) : Calls Tryz.prog 20 #[.string t] W (RetP1 z W) := by
  refine (Parse_ok t W (by omega) hg).mono fun e W' he => ⟨he.1, ?_⟩
  obtain ⟨v, ps, h1, h2, h3⟩ := he.2
  rw [hp] at h2 h3
  obtain ⟨A, m, c, rfl⟩ := owns_slice h1.row
  obtain ⟨hm, hr⟩ := evs_rd h1
  match ps, h3, hm, hr with
  | [(z', h)], h3, hm, hr =>
    have hz : z = z' := by simpa using h3
    subst hz
    subst hm
    exact ⟨A, c, h, hr, h2⟩
  | [], h3, _, _ => cases h3
  | _ :: _ :: _, h3, _, _ => simp at h3
theorem same_self (z : Ev) (A B : Option Addr) (c d : Nat) (W : World) (hm : z.hist.length ≤ 9223372036854775807) (hA : HRd W A z.hist) (hB : HRd W B z.hist) : Calls Tryz.prog 21 #[evV z (.slice A z.hist.length c), evV z (.slice B z.hist.length d)] W (RetB (.bool true) W) := by
  have h := event_same z z A B c d W hm hA hB
  rwa [decide_eq_true rfl] at h
theorem same_one (z : Ev) (hx hy : Value) (A B : Option Addr) (c d : Nat) (W : World) (hA : EvsRd W A [(z, hx)]) (hB : EvsRd W B [(z, hy)]) : Calls Tryz.prog 22 #[.slice A 1 c, .slice B 1 d] W (RetB (.bool true) W) := by
  have h := same_events A B c d [(z, hx)] [(z, hy)] W (by show (1 : Nat) ≤ _; decide) hA hB
  rwa [show decide (([(z, hx)] : List (Ev × Value)).map (·.1) = ([(z, hy)] : List (Ev × Value)).map (·.1)) = true by simp] at h
theorem take_at {P : Program} {md : Region.Mode} {ops : Array Oper} {Q : Exit → Act → World → Prop} {fuel : Nat} {listed : Array Bool} {T T' : Array Value} {D : List Deferred} {w : World} (i : Nat) (oi : Oper) (d : Nat) (v : Value) (hi : ops[i]? = some oi) (hd : oi.dst = some d) (hs : Region.noSelect ops = true) (hf : Region.free md ops listed i = true) (hr : (Region.ready md ops listed).contains i = true) (hQ : ∀ c (A B : Array Value) E w, Q (.panic c) ⟨B, E⟩ w → Q (.panic c) ⟨A, E⟩ w) (hy : Yields P ops oi v ⟨T, D⟩) (hT : T.setIfInBounds d v = T') (h : wpAny P md ops Q fuel (listed.setIfInBounds i true) ⟨T', D⟩ w) : wpAny P md ops Q (fuel + 1) listed ⟨T, D⟩ w := by
  refine wpAny_take hi hs hf hr (fun c a w h => by rw [hd] at h; exact hQ _ _ _ _ _ h) hy ?_
  rw [hd]
  subst hT
  exact h
set_option maxRecDepth 100000 in
set_option maxHeartbeats 40000000 in
theorem back_ok (A : Option Addr) (m c : Nat) (text note : ByteArray) (w : World) (hm : m ≤ 9223372036854775807) (hl : NumsA w A m) (hg : GlN w) (hAw : AwOk w) : Calls Tryz.prog 5 #[.slice A m c, .string text, .string note] w (RetB (.bool true) w) := by
  have hF := from_ok A m c w hm hl
  by_cases h1 : 1000 < text.size
  · have hA := hAw w (Below.refl _ _)
    clear hF hAw
    go_enter Tryz.func5, Tryz.ntmps5
    go_wp2_with (go_at_call 9; refine hA.mono ?_)
    rintro e W ⟨rfl, b⟩
    go_wp2
    go_ret
    exact ⟨rfl, b⟩
  by_cases h2 : 500 < note.size
  · have hA := hAw w (Below.refl _ _)
    clear hF hAw
    go_enter Tryz.func5, Tryz.ntmps5
    go_wp2_with (go_at_call 9; refine hA.mono ?_)
    rintro e W ⟨rfl, b⟩
    go_wp2
    go_ret
    exact ⟨rfl, b⟩
  go_enter Tryz.func5, Tryz.ntmps5
  go_wp2_with (go_at_call 15; refine hF.mono ?_)
  rintro e W1 ⟨rfl, b1, hs⟩
  have hW := fun W => writable_at W w.heap.size
  go_wp2_with (go_at_call 17; refine (hW _ hs).mono ?_)
  rintro e W2 ⟨y, B, n, d, hy, rfl, hG, ho⟩
  have hlt := hs.lt
  obtain ⟨rfl, _⟩ := owns_rd ho
  have hb2 : Below w.heap.size w W2 := b1.trans hG.below
  have ho2 := owns_mono ho (show w.heap.size + 1 ≤ W1.heap.size from hlt)
  have hE := EBlk.one W2 y (.slice B y.hist.length d)
  have hP : w.heap.size < W2.heap.size := Nat.lt_of_lt_of_le hlt hG.keep.size
  clear hW hs hG ho b1 hl
  unfold evV
  unfold ecells at hE ⊢
  go_upto_region 4 with fail
  generalize W2.alloc _ = W3 at *
  obtain ⟨hE3, hB3⟩ := hE
  by_cases hk1 : y.kind = 1
  · have hz := BackOk.edit hy hk1 text.data.toList note.data.toList (by rw [← size_len]; omega) (by rw [← size_len]; omega)
    have q0 : W3.cell? ⟨W2.heap.size, 0, none⟩ = some (.int .i64 1) := by rw [← hk1]; exact hE3.c0
    have q7 := hE3.c7
    have q2 := hE3.c2
    have f7 := hE3.fr 7 (by decide)
    have f2 := hE3.fr 2 (by decide)
    have hE4 := (hE3.setText text.data.toList).setNote note.data.toList
    have hB4 := (hB3.setCell (p := ⟨W2.heap.size, 7, none⟩) (Nat.le_refl _) (.string text)).setCell (p := ⟨W2.heap.size, 2, none⟩) (Nat.le_refl _) (.string note)
    have hk : Bk w ((W3.setCell ⟨W2.heap.size, 7, none⟩ (.string text)).setCell ⟨W2.heap.size, 2, none⟩ (.string note)) W2.heap.size { y with text := text.data.toList, note := note.data.toList } B d := ⟨hb2.trans (hB4.mono hb2.size), hE4, owns_below ho2 hB4, hP⟩
    clear hE3 hB3 hE4 hB4 hb2 ho2 hy hk1
    go_upto_region 8 with fail
    generalize (W3.setCell _ _).setCell _ _ = W4 at *
    generalize W2.heap.size = P at *
    obtain ⟨z, hz, hk⟩ : ∃ z, BackOk z ∧ Bk w W4 P z B d := ⟨_, hz, hk⟩
    clear q0 q7 q2 f7 f2
    have hgW := hg.below hk.below
    obtain ⟨s, hs1, hs2, hs3, hfmt⟩ := format_at hk hz hgW
    unfold evV ecells at hfmt
    have q0 := hk.evt.c0
    have q1 := hk.evt.c1
    have q2 := hk.evt.c2
    have q3 := hk.evt.c3
    have q4 := hk.evt.c4
    have q5 := hk.evt.c5
    have q6 := hk.evt.c6
    have q7 := hk.evt.c7
    have q8 := hk.evt.c8
    have q9 := hk.evt.c9
    have q10 := hk.evt.c10
    go_wp2_with (go_at_call 19; refine hfmt.mono ?_)
    rintro e W5 ⟨rfl, b5⟩
    have hk5 := hk.step b5
    have hp1 := parse_at ⟨s.toArray⟩ (by show s.length ≤ _; omega) hs2 (hg.below hk5.below)
    clear hfmt hgW hk b5 q0 q1 q2 q3 q4 q5 q6 q7 q8 q9 q10
    go_wp2_with (go_at_call 20; refine hp1.mono ?_)
    rintro e W6 ⟨b6, XA, xc, hx, hX, rfl⟩
    have hk6 := hk5.step b6
    have hp2 := parse_at (⟨s.toArray⟩ ++ ⟨#[10]⟩) (by rw [size_app]; have h2 : (⟨s.toArray⟩ : ByteArray).size = s.length := rfl; have h3 : (⟨#[10]⟩ : ByteArray).size = 1 := rfl; omega) (by rw [show (⟨s.toArray⟩ ++ ⟨#[10]⟩ : ByteArray).data.toList = s ++ [10] by simp]; exact hs3) (hg.below hk6.below)
    clear hp1 hk5 b6
    go_upto_region 10 with fail
    go_cut [13, 14, 15] from 16 (fun a b c wx => ∃ (YA : Option Addr) (yc : Nat) (hy' : Value), a = .slice YA 1 yc ∧ b = .int .i64 0 ∧ c = .int .i64 0 ∧ EvsRd wx YA [(z, hy')] ∧ EvsRd wx XA [(z, hx)] ∧ Bk w wx P z B d)
    case first =>
      go_wp2_with (go_at_call 20; refine hp2.mono ?_)
      rintro e W7 ⟨b7, YA, yc, hy', hY, rfl⟩
      have hk7 := hk6.step b7
      have hX7 := hX.below b7
      clear hp2 hk6 b7 hX
      go_wp2_with fail
      go_meet
      exact ⟨YA, yc, hy', rfl, rfl, rfl, hY, hX7, hk7⟩
    case rest =>
      obtain ⟨YA, yc, hy', rfl, rfl, rfl, hY0, hX0, hk0⟩ := hcut
      have hk7 := hk0.step ((Below.refl _ wc).drew)
      have hX7 := hX0.below ((Below.refl _ wc).drew)
      have hY7 := hY0.below ((Below.refl _ wc).drew)
      clear hp2 hk6 hX hs1 hs2 hs3 hk0 hX0 hY0 h1 h2 hlt hP
      obtain ⟨g, o, B1, d1, rfl, hgl, _, hxa, hxb, hxm⟩ := hX7 0 (Nat.zero_lt_succ _)
      change EvAt wc.drew g (o + 0 * 11) z (.slice B1 z.hist.length d1) at hxa
      change HRd wc.drew B1 z.hist at hxb
      change z.hist.length ≤ _ at hxm
      rw [show o + 0 * 11 = o by omega] at hxa
      have hA9 := hAw wc.drew hk7.below
      have hzb := (owns_rd hk7.own).2
      have hS21 := fun W h1 h2 => same_self z B1 B d1 d W hxm h1 h2
      have hS22 := fun W h1 h2 => same_one z hx hy' (some ⟨g, o, none⟩) YA xc yc W h1 h2
      unfold evV ecells at hS21
      clear hg hAw hz hF hm
      go_upto_region 11 with fail
      refine wp_region_any (by kernel_rfl) ?_
      change wpAny _ _ _ _ _ _ _ (World.drew _)
      refine wpAny_ready (rs := [0]) (by kernel_rfl) (by simp) ?_
      refine AllReady.cons rfl (fun K hK => ?_) AllReady.nil
      go_simp
      go_wp2_with (go_at_call 9; refine hA9.mono ?_; rintro e Wa ⟨rfl, b9⟩; have hk8 := hk7.step b9; have hX8 := hX7.below b9; have hY8 := hY7.below b9; have hxb8 := hxb.below b9; have hzb8 := hzb.below b9; have hxa8 := hxa.keep (b9.block g hgl); have q0 := hk8.evt.c0; have q1 := hk8.evt.c1; have q2 := hk8.evt.c2; have q3 := hk8.evt.c3; have q4 := hk8.evt.c4; have q5 := hk8.evt.c5; have q6 := hk8.evt.c6; have q7 := hk8.evt.c7; have q8 := hk8.evt.c8; have q9 := hk8.evt.c9; have q10 := hk8.evt.c10; have x0 := hxa8.c0; have x1 := hxa8.c1; have x2 := hxa8.c2; have x3 := hxa8.c3; have x4 := hxa8.c4; have x5 := hxa8.c5; have x6 := hxa8.c6; have x7 := hxa8.c7; have x8 := hxa8.c8; have x9 := hxa8.c9; have x10 := hxa8.c10)
      refine take_at 1 _ 62 (.bool true) rfl rfl (by kernel_rfl) (by kernel_rfl) (by kernel_rfl) (fun _ _ _ _ _ h => h) (Or.inl ⟨by rfl, by intro w; go_simp⟩) (by simp only [List.setIfInBounds_toArray, List.set_cons_zero, List.set_cons_succ]; rfl) ?_
      refine take_at 2 _ 63 (.int .i64 0) rfl rfl (by kernel_rfl) (by kernel_rfl) (by kernel_rfl) (fun _ _ _ _ _ h => h) (Or.inl ⟨by rfl, by intro w; go_simp⟩) (by simp only [List.setIfInBounds_toArray, List.set_cons_zero, List.set_cons_succ]; rfl) ?_
      refine take_at 3 _ 64 (.bool true) rfl rfl (by kernel_rfl) (by kernel_rfl) (by kernel_rfl) (fun _ _ _ _ _ h => h) (Or.inl ⟨by rfl, by intro w; go_simp⟩) (by simp only [List.setIfInBounds_toArray, List.set_cons_zero, List.set_cons_succ]; rfl) ?_
      refine take_at 4 _ 65 (.bool true) rfl rfl (by kernel_rfl) (by kernel_rfl) (by kernel_rfl) (fun _ _ _ _ _ h => h) (Or.inl ⟨by rfl, by intro w; go_simp⟩) (by simp only [List.setIfInBounds_toArray, List.set_cons_zero, List.set_cons_succ]; rfl) ?_
      refine take_at 5 _ 66 (.bool true) rfl rfl (by kernel_rfl) (by kernel_rfl) (by kernel_rfl) (fun _ _ _ _ _ h => h) (Or.inl ⟨by rfl, by intro w; go_simp⟩) (by simp only [List.setIfInBounds_toArray, List.set_cons_zero, List.set_cons_succ]; rfl) ?_
      refine take_at 6 _ 67 (.int .i64 0) rfl rfl (by kernel_rfl) (by kernel_rfl) (by kernel_rfl) (fun _ _ _ _ _ h => h) (Or.inl ⟨by rfl, by intro w; go_simp⟩) (by simp only [List.setIfInBounds_toArray, List.set_cons_zero, List.set_cons_succ]; rfl) ?_
      refine take_at 7 _ 68 (.bool true) rfl rfl (by kernel_rfl) (by kernel_rfl) (by kernel_rfl) (fun _ _ _ _ _ h => h) (Or.inl ⟨by rfl, by intro w; go_simp⟩) (by simp only [List.setIfInBounds_toArray, List.set_cons_zero, List.set_cons_succ]; rfl) ?_
      refine take_at 8 _ 69 (.bool true) rfl rfl (by kernel_rfl) (by kernel_rfl) (by kernel_rfl) (fun _ _ _ _ _ h => h) (Or.inl ⟨by rfl, by intro w; go_simp⟩) (by simp only [List.setIfInBounds_toArray, List.set_cons_zero, List.set_cons_succ]; rfl) ?_
      refine take_at 9 _ 70 (.bool true) rfl rfl (by kernel_rfl) (by kernel_rfl) (by kernel_rfl) (fun _ _ _ _ _ h => h) (Or.inl ⟨by rfl, by intro w; go_simp⟩) (by simp only [List.setIfInBounds_toArray, List.set_cons_zero, List.set_cons_succ]; rfl) ?_
      refine take_at 10 _ 71 (.int .i64 0) rfl rfl (by kernel_rfl) (by kernel_rfl) (by kernel_rfl) (fun _ _ _ _ _ h => h) (Or.inl ⟨by rfl, by intro w; go_simp⟩) (by simp only [List.setIfInBounds_toArray, List.set_cons_zero, List.set_cons_succ]; rfl) ?_
      refine take_at 11 _ 72 (.bool true) rfl rfl (by kernel_rfl) (by kernel_rfl) (by kernel_rfl) (fun _ _ _ _ _ h => h) (Or.inl ⟨by rfl, by intro w; go_simp⟩) (by simp only [List.setIfInBounds_toArray, List.set_cons_zero, List.set_cons_succ]; rfl) ?_
      refine take_at 12 _ 73 (.bool true) rfl rfl (by kernel_rfl) (by kernel_rfl) (by kernel_rfl) (fun _ _ _ _ _ h => h) (Or.inl ⟨by rfl, by intro w; go_simp⟩) (by simp only [List.setIfInBounds_toArray, List.set_cons_zero, List.set_cons_succ]; rfl) ?_
      refine take_at 13 _ 74 (.bool true) rfl rfl (by kernel_rfl) (by kernel_rfl) (by kernel_rfl) (fun _ _ _ _ _ h => h) (Or.inl ⟨by rfl, by intro w; go_simp⟩) (by simp only [List.setIfInBounds_toArray, List.set_cons_zero, List.set_cons_succ]; rfl) ?_
      refine take_at 14 _ 75 (.slice (some ⟨g, o, none⟩) 1 xc) rfl rfl (by kernel_rfl) (by kernel_rfl) (by kernel_rfl) (fun _ _ _ _ _ h => h) (Or.inl ⟨by rfl, by intro w; go_simp⟩) (by simp only [List.setIfInBounds_toArray, List.set_cons_zero, List.set_cons_succ]; rfl) ?_
      refine take_at 15 _ 76 (.int .i64 1) rfl rfl (by kernel_rfl) (by kernel_rfl) (by kernel_rfl) (fun _ _ _ _ _ h => h) (Or.inl ⟨by rfl, by intro w; go_simp⟩) (by simp only [List.setIfInBounds_toArray, List.set_cons_zero, List.set_cons_succ]; rfl) ?_
      refine take_at 16 _ 77 (.bool true) rfl rfl (by kernel_rfl) (by kernel_rfl) (by kernel_rfl) (fun _ _ _ _ _ h => h) (Or.inl ⟨by rfl, by intro w; go_simp⟩) (by simp only [List.setIfInBounds_toArray, List.set_cons_zero, List.set_cons_succ]; rfl) ?_
      refine take_at 17 _ 78 (.bool true) rfl rfl (by kernel_rfl) (by kernel_rfl) (by kernel_rfl) (fun _ _ _ _ _ h => h) (Or.inl ⟨by rfl, by intro w; go_simp⟩) (by simp only [List.setIfInBounds_toArray, List.set_cons_zero, List.set_cons_succ]; rfl) ?_
      refine take_at 18 _ 79 (.bool true) rfl rfl (by kernel_rfl) (by kernel_rfl) (by kernel_rfl) (fun _ _ _ _ _ h => h) (Or.inl ⟨by rfl, by intro w; go_simp⟩) (by simp only [List.setIfInBounds_toArray, List.set_cons_zero, List.set_cons_succ]; rfl) ?_
      refine take_at 19 _ 80 (.slice (some ⟨g, o, none⟩) 1 xc) rfl rfl (by kernel_rfl) (by kernel_rfl) (by kernel_rfl) (fun _ _ _ _ _ h => h) (Or.inl ⟨by rfl, by intro w; go_simp⟩) (by simp only [List.setIfInBounds_toArray, List.set_cons_zero, List.set_cons_succ]; rfl) ?_
      refine take_at 20 _ 81 (.pointer (some ⟨g, o, none⟩)) rfl rfl (by kernel_rfl) (by kernel_rfl) (by kernel_rfl) (fun _ _ _ _ _ h => h) (Or.inl ⟨by rfl, by intro w; go_simp⟩) (by simp only [List.setIfInBounds_toArray, List.set_cons_zero, List.set_cons_succ]; rfl) ?_
      refine wpAny_ready (rs := [21, 22]) (by kernel_rfl) (by simp) ?_
      refine AllReady.cons rfl (fun K2 hK2 => ?_) (AllReady.cons rfl (fun K2 hK2 => ?_) AllReady.nil)
      · go_simp
        refine hK2 _ _ ?_
        clear hK2 K2
        refine wpAny_ready (rs := [22]) (by kernel_rfl) (by simp) ?_
        refine AllReady.cons rfl (fun K2 hK2 => ?_) AllReady.nil
        go_simp
        refine hK2 _ _ ?_
        clear hK2 K2
        refine wpAny_ready (rs := [23]) (by kernel_rfl) (by simp) ?_
        refine AllReady.cons rfl (fun K hK => ?_) AllReady.nil
        go_simp
        go_wp2_with (go_at_call 21; refine (hS21 _ hxb8 hzb8).mono ?_; rintro e Wb ⟨rfl, b10⟩; have hX9 := hX8.below b10; have hY9 := hY8.below b10; have hk9 := hk8.step b10)
        refine take_at 24 _ 85 (.bool true) rfl rfl (by kernel_rfl) (by kernel_rfl) (by kernel_rfl) (fun _ _ _ _ _ h => h) (Or.inl ⟨by rfl, by intro w; go_simp⟩) (by simp only [List.setIfInBounds_toArray, List.set_cons_zero, List.set_cons_succ]; rfl) ?_
        refine take_at 25 _ 86 (.bool true) rfl rfl (by kernel_rfl) (by kernel_rfl) (by kernel_rfl) (fun _ _ _ _ _ h => h) (Or.inl ⟨by rfl, by intro w; go_simp⟩) (by simp only [List.setIfInBounds_toArray, List.set_cons_zero, List.set_cons_succ]; rfl) ?_
        refine take_at 26 _ 87 (.int .i64 0) rfl rfl (by kernel_rfl) (by kernel_rfl) (by kernel_rfl) (fun _ _ _ _ _ h => h) (Or.inl ⟨by rfl, by intro w; go_simp⟩) (by simp only [List.setIfInBounds_toArray, List.set_cons_zero, List.set_cons_succ]; rfl) ?_
        refine take_at 27 _ 88 (.bool true) rfl rfl (by kernel_rfl) (by kernel_rfl) (by kernel_rfl) (fun _ _ _ _ _ h => h) (Or.inl ⟨by rfl, by intro w; go_simp⟩) (by simp only [List.setIfInBounds_toArray, List.set_cons_zero, List.set_cons_succ]; rfl) ?_
        refine take_at 28 _ 89 (.bool true) rfl rfl (by kernel_rfl) (by kernel_rfl) (by kernel_rfl) (fun _ _ _ _ _ h => h) (Or.inl ⟨by rfl, by intro w; go_simp⟩) (by simp only [List.setIfInBounds_toArray, List.set_cons_zero, List.set_cons_succ]; rfl) ?_
        refine take_at 29 _ 90 (.bool true) rfl rfl (by kernel_rfl) (by kernel_rfl) (by kernel_rfl) (fun _ _ _ _ _ h => h) (Or.inl ⟨by rfl, by intro w; go_simp⟩) (by simp only [List.setIfInBounds_toArray, List.set_cons_zero, List.set_cons_succ]; rfl) ?_
        refine take_at 30 _ 91 (.int .i64 0) rfl rfl (by kernel_rfl) (by kernel_rfl) (by kernel_rfl) (fun _ _ _ _ _ h => h) (Or.inl ⟨by rfl, by intro w; go_simp⟩) (by simp only [List.setIfInBounds_toArray, List.set_cons_zero, List.set_cons_succ]; rfl) ?_
        refine take_at 31 _ 92 (.bool true) rfl rfl (by kernel_rfl) (by kernel_rfl) (by kernel_rfl) (fun _ _ _ _ _ h => h) (Or.inl ⟨by rfl, by intro w; go_simp⟩) (by simp only [List.setIfInBounds_toArray, List.set_cons_zero, List.set_cons_succ]; rfl) ?_
        refine take_at 32 _ 93 (.bool true) rfl rfl (by kernel_rfl) (by kernel_rfl) (by kernel_rfl) (fun _ _ _ _ _ h => h) (Or.inl ⟨by rfl, by intro w; go_simp⟩) (by simp only [List.setIfInBounds_toArray, List.set_cons_zero, List.set_cons_succ]; rfl) ?_
        refine take_at 33 _ 94 (.bool true) rfl rfl (by kernel_rfl) (by kernel_rfl) (by kernel_rfl) (fun _ _ _ _ _ h => h) (Or.inl ⟨by rfl, by intro w; go_simp⟩) (by simp only [List.setIfInBounds_toArray, List.set_cons_zero, List.set_cons_succ]; rfl) ?_
        refine take_at 34 _ 95 (.slice (some ⟨g, o, none⟩) 1 xc) rfl rfl (by kernel_rfl) (by kernel_rfl) (by kernel_rfl) (fun _ _ _ _ _ h => h) (Or.inl ⟨by rfl, by intro w; go_simp⟩) (by simp only [List.setIfInBounds_toArray, List.set_cons_zero, List.set_cons_succ]; rfl) ?_
        refine take_at 35 _ 96 (.slice YA 1 yc) rfl rfl (by kernel_rfl) (by kernel_rfl) (by kernel_rfl) (fun _ _ _ _ _ h => h) (Or.inl ⟨by rfl, by intro w; go_simp⟩) (by simp only [List.setIfInBounds_toArray, List.set_cons_zero, List.set_cons_succ]; rfl) ?_
        refine wpAny_ready (rs := [36]) (by kernel_rfl) (by simp) ?_
        refine AllReady.cons rfl (fun K hK => ?_) AllReady.nil
        go_simp
        go_wp2_with (go_at_call 22; refine (hS22 _ hX9 hY9).mono ?_; rintro e Wc ⟨rfl, b11⟩; have hk10 := hk9.step b11)
        refine take_at 37 _ 98 (.bool true) rfl rfl (by kernel_rfl) (by kernel_rfl) (by kernel_rfl) (fun _ _ _ _ _ h => h) (Or.inl ⟨by rfl, by intro w; go_simp⟩) (by simp only [List.setIfInBounds_toArray, List.set_cons_zero, List.set_cons_succ]; rfl) ?_
        refine take_at 38 _ 6 (.bool true) rfl rfl (by kernel_rfl) (by kernel_rfl) (by kernel_rfl) (fun _ _ _ _ _ h => h) (Or.inl ⟨by rfl, by intro w; go_simp⟩) (by simp only [List.setIfInBounds_toArray, List.set_cons_zero, List.set_cons_succ]; rfl) ?_
        refine wpAny_done (by kernel_rfl) ?_ _
        go_wp2
        go_ret
        exact ⟨rfl, hk10.below⟩
      · go_simp
        refine hK2 _ _ ?_
        clear hK2 K2
        refine wpAny_ready (rs := [21]) (by kernel_rfl) (by simp) ?_
        refine AllReady.cons rfl (fun K2 hK2 => ?_) AllReady.nil
        go_simp
        refine hK2 _ _ ?_
        clear hK2 K2
        refine wpAny_ready (rs := [23]) (by kernel_rfl) (by simp) ?_
        refine AllReady.cons rfl (fun K hK => ?_) AllReady.nil
        go_simp
        go_wp2_with (go_at_call 21; refine (hS21 _ hxb8 hzb8).mono ?_; rintro e Wb ⟨rfl, b10⟩; have hX9 := hX8.below b10; have hY9 := hY8.below b10; have hk9 := hk8.step b10)
        refine take_at 24 _ 85 (.bool true) rfl rfl (by kernel_rfl) (by kernel_rfl) (by kernel_rfl) (fun _ _ _ _ _ h => h) (Or.inl ⟨by rfl, by intro w; go_simp⟩) (by simp only [List.setIfInBounds_toArray, List.set_cons_zero, List.set_cons_succ]; rfl) ?_
        refine take_at 25 _ 86 (.bool true) rfl rfl (by kernel_rfl) (by kernel_rfl) (by kernel_rfl) (fun _ _ _ _ _ h => h) (Or.inl ⟨by rfl, by intro w; go_simp⟩) (by simp only [List.setIfInBounds_toArray, List.set_cons_zero, List.set_cons_succ]; rfl) ?_
        refine take_at 26 _ 87 (.int .i64 0) rfl rfl (by kernel_rfl) (by kernel_rfl) (by kernel_rfl) (fun _ _ _ _ _ h => h) (Or.inl ⟨by rfl, by intro w; go_simp⟩) (by simp only [List.setIfInBounds_toArray, List.set_cons_zero, List.set_cons_succ]; rfl) ?_
        refine take_at 27 _ 88 (.bool true) rfl rfl (by kernel_rfl) (by kernel_rfl) (by kernel_rfl) (fun _ _ _ _ _ h => h) (Or.inl ⟨by rfl, by intro w; go_simp⟩) (by simp only [List.setIfInBounds_toArray, List.set_cons_zero, List.set_cons_succ]; rfl) ?_
        refine take_at 28 _ 89 (.bool true) rfl rfl (by kernel_rfl) (by kernel_rfl) (by kernel_rfl) (fun _ _ _ _ _ h => h) (Or.inl ⟨by rfl, by intro w; go_simp⟩) (by simp only [List.setIfInBounds_toArray, List.set_cons_zero, List.set_cons_succ]; rfl) ?_
        refine take_at 29 _ 90 (.bool true) rfl rfl (by kernel_rfl) (by kernel_rfl) (by kernel_rfl) (fun _ _ _ _ _ h => h) (Or.inl ⟨by rfl, by intro w; go_simp⟩) (by simp only [List.setIfInBounds_toArray, List.set_cons_zero, List.set_cons_succ]; rfl) ?_
        refine take_at 30 _ 91 (.int .i64 0) rfl rfl (by kernel_rfl) (by kernel_rfl) (by kernel_rfl) (fun _ _ _ _ _ h => h) (Or.inl ⟨by rfl, by intro w; go_simp⟩) (by simp only [List.setIfInBounds_toArray, List.set_cons_zero, List.set_cons_succ]; rfl) ?_
        refine take_at 31 _ 92 (.bool true) rfl rfl (by kernel_rfl) (by kernel_rfl) (by kernel_rfl) (fun _ _ _ _ _ h => h) (Or.inl ⟨by rfl, by intro w; go_simp⟩) (by simp only [List.setIfInBounds_toArray, List.set_cons_zero, List.set_cons_succ]; rfl) ?_
        refine take_at 32 _ 93 (.bool true) rfl rfl (by kernel_rfl) (by kernel_rfl) (by kernel_rfl) (fun _ _ _ _ _ h => h) (Or.inl ⟨by rfl, by intro w; go_simp⟩) (by simp only [List.setIfInBounds_toArray, List.set_cons_zero, List.set_cons_succ]; rfl) ?_
        refine take_at 33 _ 94 (.bool true) rfl rfl (by kernel_rfl) (by kernel_rfl) (by kernel_rfl) (fun _ _ _ _ _ h => h) (Or.inl ⟨by rfl, by intro w; go_simp⟩) (by simp only [List.setIfInBounds_toArray, List.set_cons_zero, List.set_cons_succ]; rfl) ?_
        refine take_at 34 _ 95 (.slice (some ⟨g, o, none⟩) 1 xc) rfl rfl (by kernel_rfl) (by kernel_rfl) (by kernel_rfl) (fun _ _ _ _ _ h => h) (Or.inl ⟨by rfl, by intro w; go_simp⟩) (by simp only [List.setIfInBounds_toArray, List.set_cons_zero, List.set_cons_succ]; rfl) ?_
        refine take_at 35 _ 96 (.slice YA 1 yc) rfl rfl (by kernel_rfl) (by kernel_rfl) (by kernel_rfl) (fun _ _ _ _ _ h => h) (Or.inl ⟨by rfl, by intro w; go_simp⟩) (by simp only [List.setIfInBounds_toArray, List.set_cons_zero, List.set_cons_succ]; rfl) ?_
        refine wpAny_ready (rs := [36]) (by kernel_rfl) (by simp) ?_
        refine AllReady.cons rfl (fun K hK => ?_) AllReady.nil
        go_simp
        go_wp2_with (go_at_call 22; refine (hS22 _ hX9 hY9).mono ?_; rintro e Wc ⟨rfl, b11⟩; have hk10 := hk9.step b11)
        refine take_at 37 _ 98 (.bool true) rfl rfl (by kernel_rfl) (by kernel_rfl) (by kernel_rfl) (fun _ _ _ _ _ h => h) (Or.inl ⟨by rfl, by intro w; go_simp⟩) (by simp only [List.setIfInBounds_toArray, List.set_cons_zero, List.set_cons_succ]; rfl) ?_
        refine take_at 38 _ 6 (.bool true) rfl rfl (by kernel_rfl) (by kernel_rfl) (by kernel_rfl) (fun _ _ _ _ _ h => h) (Or.inl ⟨by rfl, by intro w; go_simp⟩) (by simp only [List.setIfInBounds_toArray, List.set_cons_zero, List.set_cons_succ]; rfl) ?_
        refine wpAny_done (by kernel_rfl) ?_ _
        go_wp2
        go_ret
        exact ⟨rfl, hk10.below⟩
  by_cases hk2 : y.kind = 16
  · have hz := BackOk.search hy hk2 text.data.toList (by rw [← size_len]; omega)
    have q0 : W3.cell? ⟨W2.heap.size, 0, none⟩ = some (.int .i64 16) := by rw [← hk2]; exact hE3.c0
    have q7 := hE3.c7
    have f7 := hE3.fr 7 (by decide)
    have hE4 := hE3.setText text.data.toList
    have hB4 := hB3.setCell (p := ⟨W2.heap.size, 7, none⟩) (Nat.le_refl _) (.string text)
    have hk : Bk w (W3.setCell ⟨W2.heap.size, 7, none⟩ (.string text)) W2.heap.size { y with text := text.data.toList } B d := ⟨hb2.trans (hB4.mono hb2.size), hE4, owns_below ho2 hB4, hP⟩
    clear hE3 hB3 hE4 hB4 hb2 ho2 hy hk1 hk2
    go_upto_region 8 with fail
    generalize W3.setCell _ _ = W4 at *
    generalize W2.heap.size = P at *
    obtain ⟨z, hz, hk⟩ : ∃ z, BackOk z ∧ Bk w W4 P z B d := ⟨_, hz, hk⟩
    clear q0 q7 f7
    have hgW := hg.below hk.below
    obtain ⟨s, hs1, hs2, hs3, hfmt⟩ := format_at hk hz hgW
    unfold evV ecells at hfmt
    have q0 := hk.evt.c0
    have q1 := hk.evt.c1
    have q2 := hk.evt.c2
    have q3 := hk.evt.c3
    have q4 := hk.evt.c4
    have q5 := hk.evt.c5
    have q6 := hk.evt.c6
    have q7 := hk.evt.c7
    have q8 := hk.evt.c8
    have q9 := hk.evt.c9
    have q10 := hk.evt.c10
    go_wp2_with (go_at_call 19; refine hfmt.mono ?_)
    rintro e W5 ⟨rfl, b5⟩
    have hk5 := hk.step b5
    have hp1 := parse_at ⟨s.toArray⟩ (by show s.length ≤ _; omega) hs2 (hg.below hk5.below)
    clear hfmt hgW hk b5 q0 q1 q2 q3 q4 q5 q6 q7 q8 q9 q10
    go_wp2_with (go_at_call 20; refine hp1.mono ?_)
    rintro e W6 ⟨b6, XA, xc, hx, hX, rfl⟩
    have hk6 := hk5.step b6
    have hp2 := parse_at (⟨s.toArray⟩ ++ ⟨#[10]⟩) (by rw [size_app]; have h2 : (⟨s.toArray⟩ : ByteArray).size = s.length := rfl; have h3 : (⟨#[10]⟩ : ByteArray).size = 1 := rfl; omega) (by rw [show (⟨s.toArray⟩ ++ ⟨#[10]⟩ : ByteArray).data.toList = s ++ [10] by simp]; exact hs3) (hg.below hk6.below)
    clear hp1 hk5 b6
    go_upto_region 10 with fail
    go_cut [13, 14, 15] from 16 (fun a b c wx => ∃ (YA : Option Addr) (yc : Nat) (hy' : Value), a = .slice YA 1 yc ∧ b = .int .i64 0 ∧ c = .int .i64 0 ∧ EvsRd wx YA [(z, hy')] ∧ EvsRd wx XA [(z, hx)] ∧ Bk w wx P z B d)
    case first =>
      go_wp2_with (go_at_call 20; refine hp2.mono ?_)
      rintro e W7 ⟨b7, YA, yc, hy', hY, rfl⟩
      have hk7 := hk6.step b7
      have hX7 := hX.below b7
      clear hp2 hk6 b7 hX
      go_wp2_with fail
      go_meet
      exact ⟨YA, yc, hy', rfl, rfl, rfl, hY, hX7, hk7⟩
    case rest =>
      obtain ⟨YA, yc, hy', rfl, rfl, rfl, hY0, hX0, hk0⟩ := hcut
      have hk7 := hk0.step ((Below.refl _ wc).drew)
      have hX7 := hX0.below ((Below.refl _ wc).drew)
      have hY7 := hY0.below ((Below.refl _ wc).drew)
      clear hp2 hk6 hX hs1 hs2 hs3 hk0 hX0 hY0 h1 h2 hlt hP
      obtain ⟨g, o, B1, d1, rfl, hgl, _, hxa, hxb, hxm⟩ := hX7 0 (Nat.zero_lt_succ _)
      change EvAt wc.drew g (o + 0 * 11) z (.slice B1 z.hist.length d1) at hxa
      change HRd wc.drew B1 z.hist at hxb
      change z.hist.length ≤ _ at hxm
      rw [show o + 0 * 11 = o by omega] at hxa
      have hA9 := hAw wc.drew hk7.below
      have hzb := (owns_rd hk7.own).2
      have hS21 := fun W h1 h2 => same_self z B1 B d1 d W hxm h1 h2
      have hS22 := fun W h1 h2 => same_one z hx hy' (some ⟨g, o, none⟩) YA xc yc W h1 h2
      unfold evV ecells at hS21
      clear hg hAw hz hF hm
      go_upto_region 11 with fail
      refine wp_region_any (by kernel_rfl) ?_
      change wpAny _ _ _ _ _ _ _ (World.drew _)
      refine wpAny_ready (rs := [0]) (by kernel_rfl) (by simp) ?_
      refine AllReady.cons rfl (fun K hK => ?_) AllReady.nil
      go_simp
      go_wp2_with (go_at_call 9; refine hA9.mono ?_; rintro e Wa ⟨rfl, b9⟩; have hk8 := hk7.step b9; have hX8 := hX7.below b9; have hY8 := hY7.below b9; have hxb8 := hxb.below b9; have hzb8 := hzb.below b9; have hxa8 := hxa.keep (b9.block g hgl); have q0 := hk8.evt.c0; have q1 := hk8.evt.c1; have q2 := hk8.evt.c2; have q3 := hk8.evt.c3; have q4 := hk8.evt.c4; have q5 := hk8.evt.c5; have q6 := hk8.evt.c6; have q7 := hk8.evt.c7; have q8 := hk8.evt.c8; have q9 := hk8.evt.c9; have q10 := hk8.evt.c10; have x0 := hxa8.c0; have x1 := hxa8.c1; have x2 := hxa8.c2; have x3 := hxa8.c3; have x4 := hxa8.c4; have x5 := hxa8.c5; have x6 := hxa8.c6; have x7 := hxa8.c7; have x8 := hxa8.c8; have x9 := hxa8.c9; have x10 := hxa8.c10)
      refine take_at 1 _ 62 (.bool true) rfl rfl (by kernel_rfl) (by kernel_rfl) (by kernel_rfl) (fun _ _ _ _ _ h => h) (Or.inl ⟨by rfl, by intro w; go_simp⟩) (by simp only [List.setIfInBounds_toArray, List.set_cons_zero, List.set_cons_succ]; rfl) ?_
      refine take_at 2 _ 63 (.int .i64 0) rfl rfl (by kernel_rfl) (by kernel_rfl) (by kernel_rfl) (fun _ _ _ _ _ h => h) (Or.inl ⟨by rfl, by intro w; go_simp⟩) (by simp only [List.setIfInBounds_toArray, List.set_cons_zero, List.set_cons_succ]; rfl) ?_
      refine take_at 3 _ 64 (.bool true) rfl rfl (by kernel_rfl) (by kernel_rfl) (by kernel_rfl) (fun _ _ _ _ _ h => h) (Or.inl ⟨by rfl, by intro w; go_simp⟩) (by simp only [List.setIfInBounds_toArray, List.set_cons_zero, List.set_cons_succ]; rfl) ?_
      refine take_at 4 _ 65 (.bool true) rfl rfl (by kernel_rfl) (by kernel_rfl) (by kernel_rfl) (fun _ _ _ _ _ h => h) (Or.inl ⟨by rfl, by intro w; go_simp⟩) (by simp only [List.setIfInBounds_toArray, List.set_cons_zero, List.set_cons_succ]; rfl) ?_
      refine take_at 5 _ 66 (.bool true) rfl rfl (by kernel_rfl) (by kernel_rfl) (by kernel_rfl) (fun _ _ _ _ _ h => h) (Or.inl ⟨by rfl, by intro w; go_simp⟩) (by simp only [List.setIfInBounds_toArray, List.set_cons_zero, List.set_cons_succ]; rfl) ?_
      refine take_at 6 _ 67 (.int .i64 0) rfl rfl (by kernel_rfl) (by kernel_rfl) (by kernel_rfl) (fun _ _ _ _ _ h => h) (Or.inl ⟨by rfl, by intro w; go_simp⟩) (by simp only [List.setIfInBounds_toArray, List.set_cons_zero, List.set_cons_succ]; rfl) ?_
      refine take_at 7 _ 68 (.bool true) rfl rfl (by kernel_rfl) (by kernel_rfl) (by kernel_rfl) (fun _ _ _ _ _ h => h) (Or.inl ⟨by rfl, by intro w; go_simp⟩) (by simp only [List.setIfInBounds_toArray, List.set_cons_zero, List.set_cons_succ]; rfl) ?_
      refine take_at 8 _ 69 (.bool true) rfl rfl (by kernel_rfl) (by kernel_rfl) (by kernel_rfl) (fun _ _ _ _ _ h => h) (Or.inl ⟨by rfl, by intro w; go_simp⟩) (by simp only [List.setIfInBounds_toArray, List.set_cons_zero, List.set_cons_succ]; rfl) ?_
      refine take_at 9 _ 70 (.bool true) rfl rfl (by kernel_rfl) (by kernel_rfl) (by kernel_rfl) (fun _ _ _ _ _ h => h) (Or.inl ⟨by rfl, by intro w; go_simp⟩) (by simp only [List.setIfInBounds_toArray, List.set_cons_zero, List.set_cons_succ]; rfl) ?_
      refine take_at 10 _ 71 (.int .i64 0) rfl rfl (by kernel_rfl) (by kernel_rfl) (by kernel_rfl) (fun _ _ _ _ _ h => h) (Or.inl ⟨by rfl, by intro w; go_simp⟩) (by simp only [List.setIfInBounds_toArray, List.set_cons_zero, List.set_cons_succ]; rfl) ?_
      refine take_at 11 _ 72 (.bool true) rfl rfl (by kernel_rfl) (by kernel_rfl) (by kernel_rfl) (fun _ _ _ _ _ h => h) (Or.inl ⟨by rfl, by intro w; go_simp⟩) (by simp only [List.setIfInBounds_toArray, List.set_cons_zero, List.set_cons_succ]; rfl) ?_
      refine take_at 12 _ 73 (.bool true) rfl rfl (by kernel_rfl) (by kernel_rfl) (by kernel_rfl) (fun _ _ _ _ _ h => h) (Or.inl ⟨by rfl, by intro w; go_simp⟩) (by simp only [List.setIfInBounds_toArray, List.set_cons_zero, List.set_cons_succ]; rfl) ?_
      refine take_at 13 _ 74 (.bool true) rfl rfl (by kernel_rfl) (by kernel_rfl) (by kernel_rfl) (fun _ _ _ _ _ h => h) (Or.inl ⟨by rfl, by intro w; go_simp⟩) (by simp only [List.setIfInBounds_toArray, List.set_cons_zero, List.set_cons_succ]; rfl) ?_
      refine take_at 14 _ 75 (.slice (some ⟨g, o, none⟩) 1 xc) rfl rfl (by kernel_rfl) (by kernel_rfl) (by kernel_rfl) (fun _ _ _ _ _ h => h) (Or.inl ⟨by rfl, by intro w; go_simp⟩) (by simp only [List.setIfInBounds_toArray, List.set_cons_zero, List.set_cons_succ]; rfl) ?_
      refine take_at 15 _ 76 (.int .i64 1) rfl rfl (by kernel_rfl) (by kernel_rfl) (by kernel_rfl) (fun _ _ _ _ _ h => h) (Or.inl ⟨by rfl, by intro w; go_simp⟩) (by simp only [List.setIfInBounds_toArray, List.set_cons_zero, List.set_cons_succ]; rfl) ?_
      refine take_at 16 _ 77 (.bool true) rfl rfl (by kernel_rfl) (by kernel_rfl) (by kernel_rfl) (fun _ _ _ _ _ h => h) (Or.inl ⟨by rfl, by intro w; go_simp⟩) (by simp only [List.setIfInBounds_toArray, List.set_cons_zero, List.set_cons_succ]; rfl) ?_
      refine take_at 17 _ 78 (.bool true) rfl rfl (by kernel_rfl) (by kernel_rfl) (by kernel_rfl) (fun _ _ _ _ _ h => h) (Or.inl ⟨by rfl, by intro w; go_simp⟩) (by simp only [List.setIfInBounds_toArray, List.set_cons_zero, List.set_cons_succ]; rfl) ?_
      refine take_at 18 _ 79 (.bool true) rfl rfl (by kernel_rfl) (by kernel_rfl) (by kernel_rfl) (fun _ _ _ _ _ h => h) (Or.inl ⟨by rfl, by intro w; go_simp⟩) (by simp only [List.setIfInBounds_toArray, List.set_cons_zero, List.set_cons_succ]; rfl) ?_
      refine take_at 19 _ 80 (.slice (some ⟨g, o, none⟩) 1 xc) rfl rfl (by kernel_rfl) (by kernel_rfl) (by kernel_rfl) (fun _ _ _ _ _ h => h) (Or.inl ⟨by rfl, by intro w; go_simp⟩) (by simp only [List.setIfInBounds_toArray, List.set_cons_zero, List.set_cons_succ]; rfl) ?_
      refine take_at 20 _ 81 (.pointer (some ⟨g, o, none⟩)) rfl rfl (by kernel_rfl) (by kernel_rfl) (by kernel_rfl) (fun _ _ _ _ _ h => h) (Or.inl ⟨by rfl, by intro w; go_simp⟩) (by simp only [List.setIfInBounds_toArray, List.set_cons_zero, List.set_cons_succ]; rfl) ?_
      refine wpAny_ready (rs := [21, 22]) (by kernel_rfl) (by simp) ?_
      refine AllReady.cons rfl (fun K2 hK2 => ?_) (AllReady.cons rfl (fun K2 hK2 => ?_) AllReady.nil)
      · go_simp
        refine hK2 _ _ ?_
        clear hK2 K2
        refine wpAny_ready (rs := [22]) (by kernel_rfl) (by simp) ?_
        refine AllReady.cons rfl (fun K2 hK2 => ?_) AllReady.nil
        go_simp
        refine hK2 _ _ ?_
        clear hK2 K2
        refine wpAny_ready (rs := [23]) (by kernel_rfl) (by simp) ?_
        refine AllReady.cons rfl (fun K hK => ?_) AllReady.nil
        go_simp
        go_wp2_with (go_at_call 21; refine (hS21 _ hxb8 hzb8).mono ?_; rintro e Wb ⟨rfl, b10⟩; have hX9 := hX8.below b10; have hY9 := hY8.below b10; have hk9 := hk8.step b10)
        refine take_at 24 _ 85 (.bool true) rfl rfl (by kernel_rfl) (by kernel_rfl) (by kernel_rfl) (fun _ _ _ _ _ h => h) (Or.inl ⟨by rfl, by intro w; go_simp⟩) (by simp only [List.setIfInBounds_toArray, List.set_cons_zero, List.set_cons_succ]; rfl) ?_
        refine take_at 25 _ 86 (.bool true) rfl rfl (by kernel_rfl) (by kernel_rfl) (by kernel_rfl) (fun _ _ _ _ _ h => h) (Or.inl ⟨by rfl, by intro w; go_simp⟩) (by simp only [List.setIfInBounds_toArray, List.set_cons_zero, List.set_cons_succ]; rfl) ?_
        refine take_at 26 _ 87 (.int .i64 0) rfl rfl (by kernel_rfl) (by kernel_rfl) (by kernel_rfl) (fun _ _ _ _ _ h => h) (Or.inl ⟨by rfl, by intro w; go_simp⟩) (by simp only [List.setIfInBounds_toArray, List.set_cons_zero, List.set_cons_succ]; rfl) ?_
        refine take_at 27 _ 88 (.bool true) rfl rfl (by kernel_rfl) (by kernel_rfl) (by kernel_rfl) (fun _ _ _ _ _ h => h) (Or.inl ⟨by rfl, by intro w; go_simp⟩) (by simp only [List.setIfInBounds_toArray, List.set_cons_zero, List.set_cons_succ]; rfl) ?_
        refine take_at 28 _ 89 (.bool true) rfl rfl (by kernel_rfl) (by kernel_rfl) (by kernel_rfl) (fun _ _ _ _ _ h => h) (Or.inl ⟨by rfl, by intro w; go_simp⟩) (by simp only [List.setIfInBounds_toArray, List.set_cons_zero, List.set_cons_succ]; rfl) ?_
        refine take_at 29 _ 90 (.bool true) rfl rfl (by kernel_rfl) (by kernel_rfl) (by kernel_rfl) (fun _ _ _ _ _ h => h) (Or.inl ⟨by rfl, by intro w; go_simp⟩) (by simp only [List.setIfInBounds_toArray, List.set_cons_zero, List.set_cons_succ]; rfl) ?_
        refine take_at 30 _ 91 (.int .i64 0) rfl rfl (by kernel_rfl) (by kernel_rfl) (by kernel_rfl) (fun _ _ _ _ _ h => h) (Or.inl ⟨by rfl, by intro w; go_simp⟩) (by simp only [List.setIfInBounds_toArray, List.set_cons_zero, List.set_cons_succ]; rfl) ?_
        refine take_at 31 _ 92 (.bool true) rfl rfl (by kernel_rfl) (by kernel_rfl) (by kernel_rfl) (fun _ _ _ _ _ h => h) (Or.inl ⟨by rfl, by intro w; go_simp⟩) (by simp only [List.setIfInBounds_toArray, List.set_cons_zero, List.set_cons_succ]; rfl) ?_
        refine take_at 32 _ 93 (.bool true) rfl rfl (by kernel_rfl) (by kernel_rfl) (by kernel_rfl) (fun _ _ _ _ _ h => h) (Or.inl ⟨by rfl, by intro w; go_simp⟩) (by simp only [List.setIfInBounds_toArray, List.set_cons_zero, List.set_cons_succ]; rfl) ?_
        refine take_at 33 _ 94 (.bool true) rfl rfl (by kernel_rfl) (by kernel_rfl) (by kernel_rfl) (fun _ _ _ _ _ h => h) (Or.inl ⟨by rfl, by intro w; go_simp⟩) (by simp only [List.setIfInBounds_toArray, List.set_cons_zero, List.set_cons_succ]; rfl) ?_
        refine take_at 34 _ 95 (.slice (some ⟨g, o, none⟩) 1 xc) rfl rfl (by kernel_rfl) (by kernel_rfl) (by kernel_rfl) (fun _ _ _ _ _ h => h) (Or.inl ⟨by rfl, by intro w; go_simp⟩) (by simp only [List.setIfInBounds_toArray, List.set_cons_zero, List.set_cons_succ]; rfl) ?_
        refine take_at 35 _ 96 (.slice YA 1 yc) rfl rfl (by kernel_rfl) (by kernel_rfl) (by kernel_rfl) (fun _ _ _ _ _ h => h) (Or.inl ⟨by rfl, by intro w; go_simp⟩) (by simp only [List.setIfInBounds_toArray, List.set_cons_zero, List.set_cons_succ]; rfl) ?_
        refine wpAny_ready (rs := [36]) (by kernel_rfl) (by simp) ?_
        refine AllReady.cons rfl (fun K hK => ?_) AllReady.nil
        go_simp
        go_wp2_with (go_at_call 22; refine (hS22 _ hX9 hY9).mono ?_; rintro e Wc ⟨rfl, b11⟩; have hk10 := hk9.step b11)
        refine take_at 37 _ 98 (.bool true) rfl rfl (by kernel_rfl) (by kernel_rfl) (by kernel_rfl) (fun _ _ _ _ _ h => h) (Or.inl ⟨by rfl, by intro w; go_simp⟩) (by simp only [List.setIfInBounds_toArray, List.set_cons_zero, List.set_cons_succ]; rfl) ?_
        refine take_at 38 _ 6 (.bool true) rfl rfl (by kernel_rfl) (by kernel_rfl) (by kernel_rfl) (fun _ _ _ _ _ h => h) (Or.inl ⟨by rfl, by intro w; go_simp⟩) (by simp only [List.setIfInBounds_toArray, List.set_cons_zero, List.set_cons_succ]; rfl) ?_
        refine wpAny_done (by kernel_rfl) ?_ _
        go_wp2
        go_ret
        exact ⟨rfl, hk10.below⟩
      · go_simp
        refine hK2 _ _ ?_
        clear hK2 K2
        refine wpAny_ready (rs := [21]) (by kernel_rfl) (by simp) ?_
        refine AllReady.cons rfl (fun K2 hK2 => ?_) AllReady.nil
        go_simp
        refine hK2 _ _ ?_
        clear hK2 K2
        refine wpAny_ready (rs := [23]) (by kernel_rfl) (by simp) ?_
        refine AllReady.cons rfl (fun K hK => ?_) AllReady.nil
        go_simp
        go_wp2_with (go_at_call 21; refine (hS21 _ hxb8 hzb8).mono ?_; rintro e Wb ⟨rfl, b10⟩; have hX9 := hX8.below b10; have hY9 := hY8.below b10; have hk9 := hk8.step b10)
        refine take_at 24 _ 85 (.bool true) rfl rfl (by kernel_rfl) (by kernel_rfl) (by kernel_rfl) (fun _ _ _ _ _ h => h) (Or.inl ⟨by rfl, by intro w; go_simp⟩) (by simp only [List.setIfInBounds_toArray, List.set_cons_zero, List.set_cons_succ]; rfl) ?_
        refine take_at 25 _ 86 (.bool true) rfl rfl (by kernel_rfl) (by kernel_rfl) (by kernel_rfl) (fun _ _ _ _ _ h => h) (Or.inl ⟨by rfl, by intro w; go_simp⟩) (by simp only [List.setIfInBounds_toArray, List.set_cons_zero, List.set_cons_succ]; rfl) ?_
        refine take_at 26 _ 87 (.int .i64 0) rfl rfl (by kernel_rfl) (by kernel_rfl) (by kernel_rfl) (fun _ _ _ _ _ h => h) (Or.inl ⟨by rfl, by intro w; go_simp⟩) (by simp only [List.setIfInBounds_toArray, List.set_cons_zero, List.set_cons_succ]; rfl) ?_
        refine take_at 27 _ 88 (.bool true) rfl rfl (by kernel_rfl) (by kernel_rfl) (by kernel_rfl) (fun _ _ _ _ _ h => h) (Or.inl ⟨by rfl, by intro w; go_simp⟩) (by simp only [List.setIfInBounds_toArray, List.set_cons_zero, List.set_cons_succ]; rfl) ?_
        refine take_at 28 _ 89 (.bool true) rfl rfl (by kernel_rfl) (by kernel_rfl) (by kernel_rfl) (fun _ _ _ _ _ h => h) (Or.inl ⟨by rfl, by intro w; go_simp⟩) (by simp only [List.setIfInBounds_toArray, List.set_cons_zero, List.set_cons_succ]; rfl) ?_
        refine take_at 29 _ 90 (.bool true) rfl rfl (by kernel_rfl) (by kernel_rfl) (by kernel_rfl) (fun _ _ _ _ _ h => h) (Or.inl ⟨by rfl, by intro w; go_simp⟩) (by simp only [List.setIfInBounds_toArray, List.set_cons_zero, List.set_cons_succ]; rfl) ?_
        refine take_at 30 _ 91 (.int .i64 0) rfl rfl (by kernel_rfl) (by kernel_rfl) (by kernel_rfl) (fun _ _ _ _ _ h => h) (Or.inl ⟨by rfl, by intro w; go_simp⟩) (by simp only [List.setIfInBounds_toArray, List.set_cons_zero, List.set_cons_succ]; rfl) ?_
        refine take_at 31 _ 92 (.bool true) rfl rfl (by kernel_rfl) (by kernel_rfl) (by kernel_rfl) (fun _ _ _ _ _ h => h) (Or.inl ⟨by rfl, by intro w; go_simp⟩) (by simp only [List.setIfInBounds_toArray, List.set_cons_zero, List.set_cons_succ]; rfl) ?_
        refine take_at 32 _ 93 (.bool true) rfl rfl (by kernel_rfl) (by kernel_rfl) (by kernel_rfl) (fun _ _ _ _ _ h => h) (Or.inl ⟨by rfl, by intro w; go_simp⟩) (by simp only [List.setIfInBounds_toArray, List.set_cons_zero, List.set_cons_succ]; rfl) ?_
        refine take_at 33 _ 94 (.bool true) rfl rfl (by kernel_rfl) (by kernel_rfl) (by kernel_rfl) (fun _ _ _ _ _ h => h) (Or.inl ⟨by rfl, by intro w; go_simp⟩) (by simp only [List.setIfInBounds_toArray, List.set_cons_zero, List.set_cons_succ]; rfl) ?_
        refine take_at 34 _ 95 (.slice (some ⟨g, o, none⟩) 1 xc) rfl rfl (by kernel_rfl) (by kernel_rfl) (by kernel_rfl) (fun _ _ _ _ _ h => h) (Or.inl ⟨by rfl, by intro w; go_simp⟩) (by simp only [List.setIfInBounds_toArray, List.set_cons_zero, List.set_cons_succ]; rfl) ?_
        refine take_at 35 _ 96 (.slice YA 1 yc) rfl rfl (by kernel_rfl) (by kernel_rfl) (by kernel_rfl) (fun _ _ _ _ _ h => h) (Or.inl ⟨by rfl, by intro w; go_simp⟩) (by simp only [List.setIfInBounds_toArray, List.set_cons_zero, List.set_cons_succ]; rfl) ?_
        refine wpAny_ready (rs := [36]) (by kernel_rfl) (by simp) ?_
        refine AllReady.cons rfl (fun K hK => ?_) AllReady.nil
        go_simp
        go_wp2_with (go_at_call 22; refine (hS22 _ hX9 hY9).mono ?_; rintro e Wc ⟨rfl, b11⟩; have hk10 := hk9.step b11)
        refine take_at 37 _ 98 (.bool true) rfl rfl (by kernel_rfl) (by kernel_rfl) (by kernel_rfl) (fun _ _ _ _ _ h => h) (Or.inl ⟨by rfl, by intro w; go_simp⟩) (by simp only [List.setIfInBounds_toArray, List.set_cons_zero, List.set_cons_succ]; rfl) ?_
        refine take_at 38 _ 6 (.bool true) rfl rfl (by kernel_rfl) (by kernel_rfl) (by kernel_rfl) (fun _ _ _ _ _ h => h) (Or.inl ⟨by rfl, by intro w; go_simp⟩) (by simp only [List.setIfInBounds_toArray, List.set_cons_zero, List.set_cons_succ]; rfl) ?_
        refine wpAny_done (by kernel_rfl) ?_ _
        go_wp2
        go_ret
        exact ⟨rfl, hk10.below⟩
  · have hz := BackOk.of hy
    have q0 := hE3.c0
    have n1 : (y.kind == 1) = false := beq_eq_false_iff_ne.2 hk1
    have n2 : (y.kind == 16) = false := beq_eq_false_iff_ne.2 hk2
    have hk : Bk w W3 W2.heap.size y B d := ⟨hb2.trans (hB3.mono hb2.size), hE3, owns_below ho2 hB3, hP⟩
    clear hE3 hB3 hb2 ho2 hy
    go_upto_region 8 with fail
    generalize W2.heap.size = P at *
    obtain ⟨z, hz, hk, hzy⟩ : ∃ z, BackOk z ∧ Bk w W3 P z B d ∧ z = y := ⟨_, hz, hk, rfl⟩
    clear q0 n1 n2 hk1 hk2 hzy
    have hgW := hg.below hk.below
    obtain ⟨s, hs1, hs2, hs3, hfmt⟩ := format_at hk hz hgW
    unfold evV ecells at hfmt
    have q0 := hk.evt.c0
    have q1 := hk.evt.c1
    have q2 := hk.evt.c2
    have q3 := hk.evt.c3
    have q4 := hk.evt.c4
    have q5 := hk.evt.c5
    have q6 := hk.evt.c6
    have q7 := hk.evt.c7
    have q8 := hk.evt.c8
    have q9 := hk.evt.c9
    have q10 := hk.evt.c10
    go_wp2_with (go_at_call 19; refine hfmt.mono ?_)
    rintro e W5 ⟨rfl, b5⟩
    have hk5 := hk.step b5
    have hp1 := parse_at ⟨s.toArray⟩ (by show s.length ≤ _; omega) hs2 (hg.below hk5.below)
    clear hfmt hgW hk b5 q0 q1 q2 q3 q4 q5 q6 q7 q8 q9 q10
    go_wp2_with (go_at_call 20; refine hp1.mono ?_)
    rintro e W6 ⟨b6, XA, xc, hx, hX, rfl⟩
    have hk6 := hk5.step b6
    have hp2 := parse_at (⟨s.toArray⟩ ++ ⟨#[10]⟩) (by rw [size_app]; have h2 : (⟨s.toArray⟩ : ByteArray).size = s.length := rfl; have h3 : (⟨#[10]⟩ : ByteArray).size = 1 := rfl; omega) (by rw [show (⟨s.toArray⟩ ++ ⟨#[10]⟩ : ByteArray).data.toList = s ++ [10] by simp]; exact hs3) (hg.below hk6.below)
    clear hp1 hk5 b6
    go_upto_region 10 with fail
    go_cut [13, 14, 15] from 16 (fun a b c wx => ∃ (YA : Option Addr) (yc : Nat) (hy' : Value), a = .slice YA 1 yc ∧ b = .int .i64 0 ∧ c = .int .i64 0 ∧ EvsRd wx YA [(z, hy')] ∧ EvsRd wx XA [(z, hx)] ∧ Bk w wx P z B d)
    case first =>
      go_wp2_with (go_at_call 20; refine hp2.mono ?_)
      rintro e W7 ⟨b7, YA, yc, hy', hY, rfl⟩
      have hk7 := hk6.step b7
      have hX7 := hX.below b7
      clear hp2 hk6 b7 hX
      go_wp2_with fail
      go_meet
      exact ⟨YA, yc, hy', rfl, rfl, rfl, hY, hX7, hk7⟩
    case rest =>
      obtain ⟨YA, yc, hy', rfl, rfl, rfl, hY0, hX0, hk0⟩ := hcut
      have hk7 := hk0.step ((Below.refl _ wc).drew)
      have hX7 := hX0.below ((Below.refl _ wc).drew)
      have hY7 := hY0.below ((Below.refl _ wc).drew)
      clear hp2 hk6 hX hs1 hs2 hs3 hk0 hX0 hY0 h1 h2 hlt hP
      obtain ⟨g, o, B1, d1, rfl, hgl, _, hxa, hxb, hxm⟩ := hX7 0 (Nat.zero_lt_succ _)
      change EvAt wc.drew g (o + 0 * 11) z (.slice B1 z.hist.length d1) at hxa
      change HRd wc.drew B1 z.hist at hxb
      change z.hist.length ≤ _ at hxm
      rw [show o + 0 * 11 = o by omega] at hxa
      have hA9 := hAw wc.drew hk7.below
      have hzb := (owns_rd hk7.own).2
      have hS21 := fun W h1 h2 => same_self z B1 B d1 d W hxm h1 h2
      have hS22 := fun W h1 h2 => same_one z hx hy' (some ⟨g, o, none⟩) YA xc yc W h1 h2
      unfold evV ecells at hS21
      clear hg hAw hz hF hm
      go_upto_region 11 with fail
      refine wp_region_any (by kernel_rfl) ?_
      change wpAny _ _ _ _ _ _ _ (World.drew _)
      refine wpAny_ready (rs := [0]) (by kernel_rfl) (by simp) ?_
      refine AllReady.cons rfl (fun K hK => ?_) AllReady.nil
      go_simp
      go_wp2_with (go_at_call 9; refine hA9.mono ?_; rintro e Wa ⟨rfl, b9⟩; have hk8 := hk7.step b9; have hX8 := hX7.below b9; have hY8 := hY7.below b9; have hxb8 := hxb.below b9; have hzb8 := hzb.below b9; have hxa8 := hxa.keep (b9.block g hgl); have q0 := hk8.evt.c0; have q1 := hk8.evt.c1; have q2 := hk8.evt.c2; have q3 := hk8.evt.c3; have q4 := hk8.evt.c4; have q5 := hk8.evt.c5; have q6 := hk8.evt.c6; have q7 := hk8.evt.c7; have q8 := hk8.evt.c8; have q9 := hk8.evt.c9; have q10 := hk8.evt.c10; have x0 := hxa8.c0; have x1 := hxa8.c1; have x2 := hxa8.c2; have x3 := hxa8.c3; have x4 := hxa8.c4; have x5 := hxa8.c5; have x6 := hxa8.c6; have x7 := hxa8.c7; have x8 := hxa8.c8; have x9 := hxa8.c9; have x10 := hxa8.c10)
      refine take_at 1 _ 62 (.bool true) rfl rfl (by kernel_rfl) (by kernel_rfl) (by kernel_rfl) (fun _ _ _ _ _ h => h) (Or.inl ⟨by rfl, by intro w; go_simp⟩) (by simp only [List.setIfInBounds_toArray, List.set_cons_zero, List.set_cons_succ]; rfl) ?_
      refine take_at 2 _ 63 (.int .i64 0) rfl rfl (by kernel_rfl) (by kernel_rfl) (by kernel_rfl) (fun _ _ _ _ _ h => h) (Or.inl ⟨by rfl, by intro w; go_simp⟩) (by simp only [List.setIfInBounds_toArray, List.set_cons_zero, List.set_cons_succ]; rfl) ?_
      refine take_at 3 _ 64 (.bool true) rfl rfl (by kernel_rfl) (by kernel_rfl) (by kernel_rfl) (fun _ _ _ _ _ h => h) (Or.inl ⟨by rfl, by intro w; go_simp⟩) (by simp only [List.setIfInBounds_toArray, List.set_cons_zero, List.set_cons_succ]; rfl) ?_
      refine take_at 4 _ 65 (.bool true) rfl rfl (by kernel_rfl) (by kernel_rfl) (by kernel_rfl) (fun _ _ _ _ _ h => h) (Or.inl ⟨by rfl, by intro w; go_simp⟩) (by simp only [List.setIfInBounds_toArray, List.set_cons_zero, List.set_cons_succ]; rfl) ?_
      refine take_at 5 _ 66 (.bool true) rfl rfl (by kernel_rfl) (by kernel_rfl) (by kernel_rfl) (fun _ _ _ _ _ h => h) (Or.inl ⟨by rfl, by intro w; go_simp⟩) (by simp only [List.setIfInBounds_toArray, List.set_cons_zero, List.set_cons_succ]; rfl) ?_
      refine take_at 6 _ 67 (.int .i64 0) rfl rfl (by kernel_rfl) (by kernel_rfl) (by kernel_rfl) (fun _ _ _ _ _ h => h) (Or.inl ⟨by rfl, by intro w; go_simp⟩) (by simp only [List.setIfInBounds_toArray, List.set_cons_zero, List.set_cons_succ]; rfl) ?_
      refine take_at 7 _ 68 (.bool true) rfl rfl (by kernel_rfl) (by kernel_rfl) (by kernel_rfl) (fun _ _ _ _ _ h => h) (Or.inl ⟨by rfl, by intro w; go_simp⟩) (by simp only [List.setIfInBounds_toArray, List.set_cons_zero, List.set_cons_succ]; rfl) ?_
      refine take_at 8 _ 69 (.bool true) rfl rfl (by kernel_rfl) (by kernel_rfl) (by kernel_rfl) (fun _ _ _ _ _ h => h) (Or.inl ⟨by rfl, by intro w; go_simp⟩) (by simp only [List.setIfInBounds_toArray, List.set_cons_zero, List.set_cons_succ]; rfl) ?_
      refine take_at 9 _ 70 (.bool true) rfl rfl (by kernel_rfl) (by kernel_rfl) (by kernel_rfl) (fun _ _ _ _ _ h => h) (Or.inl ⟨by rfl, by intro w; go_simp⟩) (by simp only [List.setIfInBounds_toArray, List.set_cons_zero, List.set_cons_succ]; rfl) ?_
      refine take_at 10 _ 71 (.int .i64 0) rfl rfl (by kernel_rfl) (by kernel_rfl) (by kernel_rfl) (fun _ _ _ _ _ h => h) (Or.inl ⟨by rfl, by intro w; go_simp⟩) (by simp only [List.setIfInBounds_toArray, List.set_cons_zero, List.set_cons_succ]; rfl) ?_
      refine take_at 11 _ 72 (.bool true) rfl rfl (by kernel_rfl) (by kernel_rfl) (by kernel_rfl) (fun _ _ _ _ _ h => h) (Or.inl ⟨by rfl, by intro w; go_simp⟩) (by simp only [List.setIfInBounds_toArray, List.set_cons_zero, List.set_cons_succ]; rfl) ?_
      refine take_at 12 _ 73 (.bool true) rfl rfl (by kernel_rfl) (by kernel_rfl) (by kernel_rfl) (fun _ _ _ _ _ h => h) (Or.inl ⟨by rfl, by intro w; go_simp⟩) (by simp only [List.setIfInBounds_toArray, List.set_cons_zero, List.set_cons_succ]; rfl) ?_
      refine take_at 13 _ 74 (.bool true) rfl rfl (by kernel_rfl) (by kernel_rfl) (by kernel_rfl) (fun _ _ _ _ _ h => h) (Or.inl ⟨by rfl, by intro w; go_simp⟩) (by simp only [List.setIfInBounds_toArray, List.set_cons_zero, List.set_cons_succ]; rfl) ?_
      refine take_at 14 _ 75 (.slice (some ⟨g, o, none⟩) 1 xc) rfl rfl (by kernel_rfl) (by kernel_rfl) (by kernel_rfl) (fun _ _ _ _ _ h => h) (Or.inl ⟨by rfl, by intro w; go_simp⟩) (by simp only [List.setIfInBounds_toArray, List.set_cons_zero, List.set_cons_succ]; rfl) ?_
      refine take_at 15 _ 76 (.int .i64 1) rfl rfl (by kernel_rfl) (by kernel_rfl) (by kernel_rfl) (fun _ _ _ _ _ h => h) (Or.inl ⟨by rfl, by intro w; go_simp⟩) (by simp only [List.setIfInBounds_toArray, List.set_cons_zero, List.set_cons_succ]; rfl) ?_
      refine take_at 16 _ 77 (.bool true) rfl rfl (by kernel_rfl) (by kernel_rfl) (by kernel_rfl) (fun _ _ _ _ _ h => h) (Or.inl ⟨by rfl, by intro w; go_simp⟩) (by simp only [List.setIfInBounds_toArray, List.set_cons_zero, List.set_cons_succ]; rfl) ?_
      refine take_at 17 _ 78 (.bool true) rfl rfl (by kernel_rfl) (by kernel_rfl) (by kernel_rfl) (fun _ _ _ _ _ h => h) (Or.inl ⟨by rfl, by intro w; go_simp⟩) (by simp only [List.setIfInBounds_toArray, List.set_cons_zero, List.set_cons_succ]; rfl) ?_
      refine take_at 18 _ 79 (.bool true) rfl rfl (by kernel_rfl) (by kernel_rfl) (by kernel_rfl) (fun _ _ _ _ _ h => h) (Or.inl ⟨by rfl, by intro w; go_simp⟩) (by simp only [List.setIfInBounds_toArray, List.set_cons_zero, List.set_cons_succ]; rfl) ?_
      refine take_at 19 _ 80 (.slice (some ⟨g, o, none⟩) 1 xc) rfl rfl (by kernel_rfl) (by kernel_rfl) (by kernel_rfl) (fun _ _ _ _ _ h => h) (Or.inl ⟨by rfl, by intro w; go_simp⟩) (by simp only [List.setIfInBounds_toArray, List.set_cons_zero, List.set_cons_succ]; rfl) ?_
      refine take_at 20 _ 81 (.pointer (some ⟨g, o, none⟩)) rfl rfl (by kernel_rfl) (by kernel_rfl) (by kernel_rfl) (fun _ _ _ _ _ h => h) (Or.inl ⟨by rfl, by intro w; go_simp⟩) (by simp only [List.setIfInBounds_toArray, List.set_cons_zero, List.set_cons_succ]; rfl) ?_
      refine wpAny_ready (rs := [21, 22]) (by kernel_rfl) (by simp) ?_
      refine AllReady.cons rfl (fun K2 hK2 => ?_) (AllReady.cons rfl (fun K2 hK2 => ?_) AllReady.nil)
      · go_simp
        refine hK2 _ _ ?_
        clear hK2 K2
        refine wpAny_ready (rs := [22]) (by kernel_rfl) (by simp) ?_
        refine AllReady.cons rfl (fun K2 hK2 => ?_) AllReady.nil
        go_simp
        refine hK2 _ _ ?_
        clear hK2 K2
        refine wpAny_ready (rs := [23]) (by kernel_rfl) (by simp) ?_
        refine AllReady.cons rfl (fun K hK => ?_) AllReady.nil
        go_simp
        go_wp2_with (go_at_call 21; refine (hS21 _ hxb8 hzb8).mono ?_; rintro e Wb ⟨rfl, b10⟩; have hX9 := hX8.below b10; have hY9 := hY8.below b10; have hk9 := hk8.step b10)
        refine take_at 24 _ 85 (.bool true) rfl rfl (by kernel_rfl) (by kernel_rfl) (by kernel_rfl) (fun _ _ _ _ _ h => h) (Or.inl ⟨by rfl, by intro w; go_simp⟩) (by simp only [List.setIfInBounds_toArray, List.set_cons_zero, List.set_cons_succ]; rfl) ?_
        refine take_at 25 _ 86 (.bool true) rfl rfl (by kernel_rfl) (by kernel_rfl) (by kernel_rfl) (fun _ _ _ _ _ h => h) (Or.inl ⟨by rfl, by intro w; go_simp⟩) (by simp only [List.setIfInBounds_toArray, List.set_cons_zero, List.set_cons_succ]; rfl) ?_
        refine take_at 26 _ 87 (.int .i64 0) rfl rfl (by kernel_rfl) (by kernel_rfl) (by kernel_rfl) (fun _ _ _ _ _ h => h) (Or.inl ⟨by rfl, by intro w; go_simp⟩) (by simp only [List.setIfInBounds_toArray, List.set_cons_zero, List.set_cons_succ]; rfl) ?_
        refine take_at 27 _ 88 (.bool true) rfl rfl (by kernel_rfl) (by kernel_rfl) (by kernel_rfl) (fun _ _ _ _ _ h => h) (Or.inl ⟨by rfl, by intro w; go_simp⟩) (by simp only [List.setIfInBounds_toArray, List.set_cons_zero, List.set_cons_succ]; rfl) ?_
        refine take_at 28 _ 89 (.bool true) rfl rfl (by kernel_rfl) (by kernel_rfl) (by kernel_rfl) (fun _ _ _ _ _ h => h) (Or.inl ⟨by rfl, by intro w; go_simp⟩) (by simp only [List.setIfInBounds_toArray, List.set_cons_zero, List.set_cons_succ]; rfl) ?_
        refine take_at 29 _ 90 (.bool true) rfl rfl (by kernel_rfl) (by kernel_rfl) (by kernel_rfl) (fun _ _ _ _ _ h => h) (Or.inl ⟨by rfl, by intro w; go_simp⟩) (by simp only [List.setIfInBounds_toArray, List.set_cons_zero, List.set_cons_succ]; rfl) ?_
        refine take_at 30 _ 91 (.int .i64 0) rfl rfl (by kernel_rfl) (by kernel_rfl) (by kernel_rfl) (fun _ _ _ _ _ h => h) (Or.inl ⟨by rfl, by intro w; go_simp⟩) (by simp only [List.setIfInBounds_toArray, List.set_cons_zero, List.set_cons_succ]; rfl) ?_
        refine take_at 31 _ 92 (.bool true) rfl rfl (by kernel_rfl) (by kernel_rfl) (by kernel_rfl) (fun _ _ _ _ _ h => h) (Or.inl ⟨by rfl, by intro w; go_simp⟩) (by simp only [List.setIfInBounds_toArray, List.set_cons_zero, List.set_cons_succ]; rfl) ?_
        refine take_at 32 _ 93 (.bool true) rfl rfl (by kernel_rfl) (by kernel_rfl) (by kernel_rfl) (fun _ _ _ _ _ h => h) (Or.inl ⟨by rfl, by intro w; go_simp⟩) (by simp only [List.setIfInBounds_toArray, List.set_cons_zero, List.set_cons_succ]; rfl) ?_
        refine take_at 33 _ 94 (.bool true) rfl rfl (by kernel_rfl) (by kernel_rfl) (by kernel_rfl) (fun _ _ _ _ _ h => h) (Or.inl ⟨by rfl, by intro w; go_simp⟩) (by simp only [List.setIfInBounds_toArray, List.set_cons_zero, List.set_cons_succ]; rfl) ?_
        refine take_at 34 _ 95 (.slice (some ⟨g, o, none⟩) 1 xc) rfl rfl (by kernel_rfl) (by kernel_rfl) (by kernel_rfl) (fun _ _ _ _ _ h => h) (Or.inl ⟨by rfl, by intro w; go_simp⟩) (by simp only [List.setIfInBounds_toArray, List.set_cons_zero, List.set_cons_succ]; rfl) ?_
        refine take_at 35 _ 96 (.slice YA 1 yc) rfl rfl (by kernel_rfl) (by kernel_rfl) (by kernel_rfl) (fun _ _ _ _ _ h => h) (Or.inl ⟨by rfl, by intro w; go_simp⟩) (by simp only [List.setIfInBounds_toArray, List.set_cons_zero, List.set_cons_succ]; rfl) ?_
        refine wpAny_ready (rs := [36]) (by kernel_rfl) (by simp) ?_
        refine AllReady.cons rfl (fun K hK => ?_) AllReady.nil
        go_simp
        go_wp2_with (go_at_call 22; refine (hS22 _ hX9 hY9).mono ?_; rintro e Wc ⟨rfl, b11⟩; have hk10 := hk9.step b11)
        refine take_at 37 _ 98 (.bool true) rfl rfl (by kernel_rfl) (by kernel_rfl) (by kernel_rfl) (fun _ _ _ _ _ h => h) (Or.inl ⟨by rfl, by intro w; go_simp⟩) (by simp only [List.setIfInBounds_toArray, List.set_cons_zero, List.set_cons_succ]; rfl) ?_
        refine take_at 38 _ 6 (.bool true) rfl rfl (by kernel_rfl) (by kernel_rfl) (by kernel_rfl) (fun _ _ _ _ _ h => h) (Or.inl ⟨by rfl, by intro w; go_simp⟩) (by simp only [List.setIfInBounds_toArray, List.set_cons_zero, List.set_cons_succ]; rfl) ?_
        refine wpAny_done (by kernel_rfl) ?_ _
        go_wp2
        go_ret
        exact ⟨rfl, hk10.below⟩
      · go_simp
        refine hK2 _ _ ?_
        clear hK2 K2
        refine wpAny_ready (rs := [21]) (by kernel_rfl) (by simp) ?_
        refine AllReady.cons rfl (fun K2 hK2 => ?_) AllReady.nil
        go_simp
        refine hK2 _ _ ?_
        clear hK2 K2
        refine wpAny_ready (rs := [23]) (by kernel_rfl) (by simp) ?_
        refine AllReady.cons rfl (fun K hK => ?_) AllReady.nil
        go_simp
        go_wp2_with (go_at_call 21; refine (hS21 _ hxb8 hzb8).mono ?_; rintro e Wb ⟨rfl, b10⟩; have hX9 := hX8.below b10; have hY9 := hY8.below b10; have hk9 := hk8.step b10)
        refine take_at 24 _ 85 (.bool true) rfl rfl (by kernel_rfl) (by kernel_rfl) (by kernel_rfl) (fun _ _ _ _ _ h => h) (Or.inl ⟨by rfl, by intro w; go_simp⟩) (by simp only [List.setIfInBounds_toArray, List.set_cons_zero, List.set_cons_succ]; rfl) ?_
        refine take_at 25 _ 86 (.bool true) rfl rfl (by kernel_rfl) (by kernel_rfl) (by kernel_rfl) (fun _ _ _ _ _ h => h) (Or.inl ⟨by rfl, by intro w; go_simp⟩) (by simp only [List.setIfInBounds_toArray, List.set_cons_zero, List.set_cons_succ]; rfl) ?_
        refine take_at 26 _ 87 (.int .i64 0) rfl rfl (by kernel_rfl) (by kernel_rfl) (by kernel_rfl) (fun _ _ _ _ _ h => h) (Or.inl ⟨by rfl, by intro w; go_simp⟩) (by simp only [List.setIfInBounds_toArray, List.set_cons_zero, List.set_cons_succ]; rfl) ?_
        refine take_at 27 _ 88 (.bool true) rfl rfl (by kernel_rfl) (by kernel_rfl) (by kernel_rfl) (fun _ _ _ _ _ h => h) (Or.inl ⟨by rfl, by intro w; go_simp⟩) (by simp only [List.setIfInBounds_toArray, List.set_cons_zero, List.set_cons_succ]; rfl) ?_
        refine take_at 28 _ 89 (.bool true) rfl rfl (by kernel_rfl) (by kernel_rfl) (by kernel_rfl) (fun _ _ _ _ _ h => h) (Or.inl ⟨by rfl, by intro w; go_simp⟩) (by simp only [List.setIfInBounds_toArray, List.set_cons_zero, List.set_cons_succ]; rfl) ?_
        refine take_at 29 _ 90 (.bool true) rfl rfl (by kernel_rfl) (by kernel_rfl) (by kernel_rfl) (fun _ _ _ _ _ h => h) (Or.inl ⟨by rfl, by intro w; go_simp⟩) (by simp only [List.setIfInBounds_toArray, List.set_cons_zero, List.set_cons_succ]; rfl) ?_
        refine take_at 30 _ 91 (.int .i64 0) rfl rfl (by kernel_rfl) (by kernel_rfl) (by kernel_rfl) (fun _ _ _ _ _ h => h) (Or.inl ⟨by rfl, by intro w; go_simp⟩) (by simp only [List.setIfInBounds_toArray, List.set_cons_zero, List.set_cons_succ]; rfl) ?_
        refine take_at 31 _ 92 (.bool true) rfl rfl (by kernel_rfl) (by kernel_rfl) (by kernel_rfl) (fun _ _ _ _ _ h => h) (Or.inl ⟨by rfl, by intro w; go_simp⟩) (by simp only [List.setIfInBounds_toArray, List.set_cons_zero, List.set_cons_succ]; rfl) ?_
        refine take_at 32 _ 93 (.bool true) rfl rfl (by kernel_rfl) (by kernel_rfl) (by kernel_rfl) (fun _ _ _ _ _ h => h) (Or.inl ⟨by rfl, by intro w; go_simp⟩) (by simp only [List.setIfInBounds_toArray, List.set_cons_zero, List.set_cons_succ]; rfl) ?_
        refine take_at 33 _ 94 (.bool true) rfl rfl (by kernel_rfl) (by kernel_rfl) (by kernel_rfl) (fun _ _ _ _ _ h => h) (Or.inl ⟨by rfl, by intro w; go_simp⟩) (by simp only [List.setIfInBounds_toArray, List.set_cons_zero, List.set_cons_succ]; rfl) ?_
        refine take_at 34 _ 95 (.slice (some ⟨g, o, none⟩) 1 xc) rfl rfl (by kernel_rfl) (by kernel_rfl) (by kernel_rfl) (fun _ _ _ _ _ h => h) (Or.inl ⟨by rfl, by intro w; go_simp⟩) (by simp only [List.setIfInBounds_toArray, List.set_cons_zero, List.set_cons_succ]; rfl) ?_
        refine take_at 35 _ 96 (.slice YA 1 yc) rfl rfl (by kernel_rfl) (by kernel_rfl) (by kernel_rfl) (fun _ _ _ _ _ h => h) (Or.inl ⟨by rfl, by intro w; go_simp⟩) (by simp only [List.setIfInBounds_toArray, List.set_cons_zero, List.set_cons_succ]; rfl) ?_
        refine wpAny_ready (rs := [36]) (by kernel_rfl) (by simp) ?_
        refine AllReady.cons rfl (fun K hK => ?_) AllReady.nil
        go_simp
        go_wp2_with (go_at_call 22; refine (hS22 _ hX9 hY9).mono ?_; rintro e Wc ⟨rfl, b11⟩; have hk10 := hk9.step b11)
        refine take_at 37 _ 98 (.bool true) rfl rfl (by kernel_rfl) (by kernel_rfl) (by kernel_rfl) (fun _ _ _ _ _ h => h) (Or.inl ⟨by rfl, by intro w; go_simp⟩) (by simp only [List.setIfInBounds_toArray, List.set_cons_zero, List.set_cons_succ]; rfl) ?_
        refine take_at 38 _ 6 (.bool true) rfl rfl (by kernel_rfl) (by kernel_rfl) (by kernel_rfl) (fun _ _ _ _ _ h => h) (Or.inl ⟨by rfl, by intro w; go_simp⟩) (by simp only [List.setIfInBounds_toArray, List.set_cons_zero, List.set_cons_succ]; rfl) ?_
        refine wpAny_done (by kernel_rfl) ?_ _
        go_wp2
        go_ret
        exact ⟨rfl, hk10.below⟩
end Go.Proofs
