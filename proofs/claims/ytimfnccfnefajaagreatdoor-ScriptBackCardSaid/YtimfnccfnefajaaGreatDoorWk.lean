/- What script.Format computes of an event; equality of lists of events. -/
import Derived.Test.YtimfnccfnefajaaGreatDoorWj
set_option linter.unusedSimpArgs false
set_option linter.unusedVariables false
namespace Go.Proofs
open Go.RowKit Go.Sp
theorem info9 : (Tryz.prog.info? 9).map (fun i => (i.zero, i.size, i.bytes)) = some (some (.string ⟨#[]⟩), 1, 16) := by kernel_rfl
theorem und60 : Tryz.prog.underlying 60 = some (.slice 9) := by kernel_rfl
def strs (L : List Bs) : List Value := L.map fun s => Value.string ⟨s.toArray⟩
theorem strs_snoc (L : List Bs) (x : Bs) : strs (L ++ [x]) = strs L ++ [.string ⟨x.toArray⟩] := by simp [strs]
theorem strs_one (L : List Bs) : ∀ u ∈ strs L, u.oneCell' = true := by
  intro u hu
  obtain ⟨s, _, rfl⟩ := List.mem_map.1 hu
  rfl
/-- The words so far, beside the event that they are of. -/
structure FmR (w wr : World) (e : Ev) (h v : Value) (L : List Bs) : Prop where
  below : Below w.heap.size w wr
  evt : EBlk wr w.heap.size e h
  row : wr.ownsRow (w.heap.size + 1) 9 1 v L.length (strs L)
theorem FmR.step {w wr w' : World} {e : Ev} {h v : Value} {L : List Bs} (k : FmR w wr e h v L) (x : Below wr.heap.size wr w') : FmR w w' e h v L :=
  ⟨k.below.trans (x.mono k.below.size), k.evt.below k.evt.lt x, owns_below k.row x⟩
theorem FmR.lt {w wr : World} {e : Ev} {h v : Value} {L : List Bs} (k : FmR w wr e h v L) : w.heap.size + 1 ≤ wr.heap.size := k.evt.lt
theorem EBlk.keep {w w' : World} {b : Nat} {e : Ev} {h : Value} (k : EBlk w b e h) (hb : w'.heap[b]? = w.heap[b]?) (hs : w.heap.size ≤ w'.heap.size) : EBlk w' b e h :=
  ⟨(World.cell?_of_block (a := ⟨b, 0, none⟩) hb).trans k.c0, (World.cell?_of_block (a := ⟨b, 1, none⟩) hb).trans k.c1, (World.cell?_of_block (a := ⟨b, 2, none⟩) hb).trans k.c2, (World.cell?_of_block (a := ⟨b, 3, none⟩) hb).trans k.c3, (World.cell?_of_block (a := ⟨b, 4, none⟩) hb).trans k.c4, (World.cell?_of_block (a := ⟨b, 5, none⟩) hb).trans k.c5, (World.cell?_of_block (a := ⟨b, 6, none⟩) hb).trans k.c6, (World.cell?_of_block (a := ⟨b, 7, none⟩) hb).trans k.c7, (World.cell?_of_block (a := ⟨b, 8, none⟩) hb).trans k.c8, (World.cell?_of_block (a := ⟨b, 9, none⟩) hb).trans k.c9, (World.cell?_of_block (a := ⟨b, 10, none⟩) hb).trans k.c10, fun j hj => (World.frozen?_of_block (a := ⟨b, j, none⟩) hb).trans (k.fr j hj), Nat.lt_of_lt_of_le k.lt hs⟩
theorem FmR.push {w W w1 : World} {e : Ev} {h v v1 : Value} {L : List Bs} {o : Obj} {x : Bs} (k : FmR w W e h v L) (hown : w1.ownsRow (w.heap.size + 1) 9 1 v1 (L.length + 1) (strs L ++ [.string ⟨x.toArray⟩])) (hg : (W.alloc o).grownBy w1 v.ownBlock) : FmR w w1 e h v1 (L ++ [x]) := by
  have hx : Below (w.heap.size + 1) W w1 := ((Below.refl _ W).alloc k.lt o).grown hg (by have := k.lt; simp; omega) (fun g hh => owns_base k.row g hh)
  exact ⟨k.below.trans (hx.mono (Nat.le_succ _)), k.evt.keep (hx.block _ (Nat.lt_succ_self _)) hx.size, by rw [strs_snoc, List.length_append]; exact hown⟩
theorem FmR.first {w W : World} {e : Ev} {h : Value} (x : Bs) (hb : Below w.heap.size w W) (he : EBlk W w.heap.size e h) : FmR w (W.alloc (.cells #[.string ⟨x.toArray⟩] 9)) e h (.slice (some ⟨W.heap.size, 0, none⟩) 1 1) [x] := by
  have hx : Below W.heap.size W (W.alloc (.cells #[.string ⟨x.toArray⟩] 9)) := (Below.refl _ W).alloc (Nat.le_refl _) _
  refine ⟨hb.trans (hx.mono hb.size), he.below he.lt hx, rfl, .inr ⟨W.heap.size, 1, #[.string ⟨x.toArray⟩], rfl, he.lt, ?_, Nat.le_refl _, by unfold maxLen; omega, rfl, rfl⟩⟩
  exact heap_alloc_new W _
theorem iter_keep {W w1 : World} {IT pos base n size e0 : Nat} {s : ByteArray} {v : Value} {xs : List Value} {o : Obj} (hi : W.heap[IT]? = some (.stringIter s pos)) (k : W.ownsRow base e0 size v n xs) (hg : (W.alloc o).grownBy w1 v.ownBlock) : w1.heap[IT]? = some (.stringIter s pos) := by
  have hlt : IT < W.heap.size := (Array.getElem?_eq_some_iff.1 hi).1
  rw [hg.block IT (by simp; omega) ?_, Below.heap_alloc _ _ _ hlt]
  · exact hi
  · intro hq
    rcases k.2 with ⟨rfl, _⟩ | ⟨g, cap, cur, rfl, _, hgg, _⟩
    · cases hq
    · have : IT = g := Option.some.inj hq
      subst this
      rw [hi] at hgg
      cases hgg
theorem joinOwn {w : World} {base : Nat} {v : Value} {L : List Bs} (c : UInt8) (hL : 0 < L.length) (h : w.ownsRow base 9 1 v L.length (strs L)) (hN : L.length ≤ 140737488355328) (hlen : (Lib.join L [c]).length ≤ 140737488355328) :
    Calls Tryz.prog 40 #[v, .string ⟨#[c]⟩] w (RetB (.string ⟨(Lib.join L [c]).toArray⟩) w) := by
  rcases h.2 with ⟨_, hn⟩ | ⟨g, cap, cur, rfl, _, hg, hcap, _⟩
  · omega
  · have hc := h.cells (g := g) rfl
    have hadd : ∀ j, (⟨g, 0, none⟩ : Addr).add j = ⟨g, 0 + j, none⟩ := fun j => by unfold Addr.add; split <;> simp_all
    have := Tryz.strings_Join g 0 cap (L.map fun l => (⟨l.toArray⟩ : ByteArray)) ⟨#[c]⟩ w (fun j x hx => by
      rw [← hadd]
      refine hc j _ ?_
      unfold strs
      rw [List.getElem?_map] at hx ⊢
      cases hq : L[j]? with
      | none => rw [hq] at hx; cases hx
      | some s => rw [hq] at hx; obtain rfl := Option.some.inj hx; rfl) (Array.getElem?_eq_some_iff.1 hg).1 (by simpa using hN) (by simpa using hcap) (by
        rw [List.map_map]
        have e : (List.map ((fun x : ByteArray => x.data.toList) ∘ fun l : Bs => (⟨l.toArray⟩ : ByteArray)) L) = L := by simp [Function.comp_def]
        rw [e]; exact hlen)
    rw [List.map_map, List.length_map] at this
    have e : (List.map ((fun x : ByteArray => x.data.toList) ∘ fun l : Bs => (⟨l.toArray⟩ : ByteArray)) L) = L := by simp [Function.comp_def]
    rw [e] at this
    exact this.mono fun _ _ h => h
end Go.Proofs
namespace Go.Proofs
open Go.RowKit Go.Sp
/-- The words of the line up to the place pos of the form. -/
def wordsAt (f : Sp.Form) (e : Ev) (pos : Nat) : List Bs := f.verb :: ((f.kinds.take pos).map (wordF e) ++ if f.kinds.length < pos then e.hist.map (fun r => wr r.text) else [])
theorem wordsAt_zero (f : Sp.Form) (e : Ev) : wordsAt f e 0 = [f.verb] := by simp [wordsAt]
theorem wordsAt_fld {f : Sp.Form} {e : Ev} {pos : Nat} (h : pos < f.kinds.length) : wordsAt f e (pos + 1) = wordsAt f e pos ++ [wordF e f.kinds[pos]] := by
  unfold wordsAt
  rw [if_neg (by omega), if_neg (by omega), List.append_nil, List.append_nil, List.take_succ_eq_append_getElem h, List.map_append]
  rfl
theorem wordsAt_many {f : Sp.Form} {e : Ev} : wordsAt f e (f.kinds.length + 1) = wordsAt f e f.kinds.length ++ e.hist.map (fun r => wr r.text) := by
  unfold wordsAt
  rw [if_pos (by omega), if_neg (by omega), List.append_nil, List.take_of_length_le (by omega), List.take_of_length_le (by omega)]
  rfl
theorem wordsAt_len (f : Sp.Form) (e : Ev) (pos : Nat) : (wordsAt f e pos).length ≤ 1 + f.kinds.length + e.hist.length := by
  unfold wordsAt
  rw [List.length_cons, List.length_append, List.length_map, List.length_take]
  split
  · rw [List.length_map]; omega
  · rw [List.length_nil]; omega
theorem kstr_len (f : Sp.Form) : (kstr f).length = f.kinds.length + if f.many then 1 else 0 := by
  unfold kstr
  rw [List.length_append, List.length_map]
  split <;> rfl
theorem wordsAt_end (f : Sp.Form) (e : Ev) : wordsAt f e (kstr f).length = wordsF f e := by
  rw [kstr_len]
  unfold wordsAt wordsF
  cases f.many with
  | false => simp
  | true => simp [List.take_of_length_le]
theorem kstr_fld {f : Sp.Form} {pos : Nat} (h : pos < f.kinds.length) : ((kstr f)[pos]?) = some (runeB f.kinds[pos]) := by
  unfold kstr
  rw [List.getElem?_append_left (by simpa using h), List.getElem?_map, List.getElem?_eq_getElem h]; rfl
theorem kstr_many {f : Sp.Form} (h : f.many = true) : ((kstr f)[f.kinds.length]?) = some 42 := by
  unfold kstr
  rw [List.getElem?_append_right (by simp), h]
  simp
theorem FmR.iter {w wr : World} {e : Ev} {h v : Value} {L : List Bs} (k : FmR w wr e h v L) {IT pos : Nat} {s : ByteArray} (hI : wr.heap[IT]? = some (.stringIter s pos)) (hl : w.heap.size < IT) (pos' : Nat) : FmR w (wr.iterAt IT s pos') e h v L := by
  have ho : ∀ j, j ≠ IT → (wr.iterAt IT s pos').heap[j]? = wr.heap[j]? := fun j hj => Lib.iterAt_other _ _ _ _ _ hj
  refine ⟨Lib.below_iterAt k.below (Nat.le_of_lt hl) s pos', k.evt.keep (ho _ (by omega)) (by rw [Lib.iterAt_size]; exact Nat.le_refl _), k.row.1, ?_⟩
  rcases k.row.2 with h2 | ⟨g, cap, cur, hv, hb, hg, hr⟩
  · exact .inl h2
  · refine .inr ⟨g, cap, cur, hv, hb, (ho g ?_).trans hg, hr⟩
    rintro rfl
    rw [hI] at hg
    cases hg
/-- The loop over the fields of a form. -/
structure FL (w : World) (e : Ev) (h : Value) (f : Sp.Form) (IT pos : Nat) (v : Value) (wr : World) : Prop where
  iter : wr.heap[IT]? = some (.stringIter ⟨(kstr f).toArray⟩ pos)
  fm : FmR w wr e h v (wordsAt f e pos)
theorem FL.next {w wr : World} {e : Ev} {h v : Value} {f : Sp.Form} {IT pos : Nat} (k : FL w e h f IT pos v wr) (hl : w.heap.size < IT) {b : UInt8} (hb : (kstr f)[pos]? = some b) (ha : b.toNat < 128) :
    ∃ wi, (∀ ty, (Instr.next (.pointer (some ⟨IT, 0, none⟩)) true ty).run Tryz.prog wr = .ok (.tuple #[.bool true, .int .i64 pos, .int .i32 b.toNat]) wi) ∧ FmR w wi e h v (wordsAt f e pos) ∧ wi.heap[IT]? = some (.stringIter ⟨(kstr f).toArray⟩ (pos + 1)) := by
  obtain ⟨hp, hq⟩ := List.getElem?_eq_some_iff.1 hb
  have hkb : (⟨(kstr f).toArray⟩ : ByteArray)[pos]'(by show pos < (kstr f).length; exact hp) = b := by
    show (kstr f).toArray[pos]'(by simpa using hp) = _
    simpa using hq
  have hnx := fun ty => Lib.run_next_ascii_at (P := Tryz.prog) wr IT ⟨(kstr f).toArray⟩ pos ty k.iter (by show pos < (kstr f).length; exact hp) (by rw [hkb]; exact ha)
  exact ⟨_, fun ty => by rw [hnx ty, hkb], k.fm.iter k.iter hl _, Lib.iterAt_heap wr IT _ pos (pos + 1) k.iter⟩
/-- What Format gives of an event. -/
def RetM (e : Ev) (w : World) (en : Ending) (w' : World) : Prop := Below w.heap.size w w' ∧ ((∃ s, formatS e = some s ∧ en = .returned (.tuple #[.string ⟨s.toArray⟩, .int .i64 0])) ∨ (formatS e = none ∧ en = .returned (.tuple #[.string ⟨#[]⟩, .int .i64 7])))
theorem runeF_ne {k : Fld} (h : k ≠ .many) : ¬ runeF k = 42 ∧ (runeF k != 42) = true ∧ (runeF k == 42) = false := by
  cases k <;> first | exact absurd rfl h | exact ⟨by decide, by decide, by decide⟩
theorem formAt_mem {i : Nat} (h : i < 21) : formAt i ∈ forms := by
  unfold formAt
  rw [List.getD_eq_getElem?_getD, List.getElem?_eq_getElem (by exact h)]
  exact List.getElem_mem _
theorem FL.first {w W : World} {e : Ev} {h : Value} (f : Sp.Form) (hb : Below w.heap.size w W) (he : EBlk W w.heap.size e h) : FL w e h f (W.heap.size + 1) 0 (.slice (some ⟨W.heap.size, 0, none⟩) 1 1) ((W.alloc (.cells #[.string ⟨f.verb.toArray⟩] 9)).iter ⟨(kstr f).toArray⟩ 0) := by
  have h1 := FmR.first f.verb hb he
  have hs : (W.alloc (.cells #[.string ⟨f.verb.toArray⟩] 9)).heap.size = W.heap.size + 1 := by simp
  have hi := World.iter_heap (W.alloc (.cells #[.string ⟨f.verb.toArray⟩] 9)) ⟨(kstr f).toArray⟩ 0
  rw [hs] at hi
  exact ⟨hi, by rw [wordsAt_zero]; exact h1.step ((Below.refl _ _).alloc (Nat.le_refl _) (.stringIter ⟨(kstr f).toArray⟩ 0))⟩
theorem owns_max {w : World} {base e size : Nat} {v : Value} {n : Nat} {xs : List Value} (h : w.ownsRow base e size v n xs) : n ≤ 9223372036854775807 := by
  rcases h.2 with ⟨_, hn⟩ | ⟨g, cap, cur, _, _, _, h1, h2, _⟩
  · omega
  · unfold maxLen at h2; omega
set_option maxRecDepth 100000 in
set_option maxHeartbeats 4000000 in
theorem Format_ok (e : Ev) (A : Option Addr) (c : Nat) (w : World) (he : EvFit e) (hmx : e.hist.length ≤ 4294967296) (hht : ∀ i, (rv e.hist i).text.length < 4294960000) (hA : HRd w A e.hist) (hT : ∀ f ∈ forms, (textF f e).length < 4294960000) (hg : GlN w) : Calls Tryz.prog 19 #[evV e (.slice A e.hist.length c)] w (RetM e w) := by
  obtain ⟨i0, hi0, hz0, hz1, hz2⟩ := info_parts info9
  obtain ⟨hE, hb⟩ := EBlk.one w e (.slice A e.hist.length c)
  have hF := fun W => forms_ok W
  generalize hh : Value.slice A e.hist.length c = h at *
  have HH := Lib.hid hh
  clear hh
  unfold evV
  unfold ecells at *
  go_enter Tryz.func19, Tryz.ntmps19
  go_wp2_with (go_at_call 35; refine (hF _).mono ?_)
  generalize w.alloc _ = W1 at *
  rintro e1 W2 ⟨rfl, b2, hr2, hl2⟩
  have hE2 := hE.below hE.lt b2
  have hb2 := hb.trans (b2.mono (Nat.le_of_lt hE.lt))
  have hF1 : w.heap.size < W1.heap.size := hE.lt
  generalize W1.heap.size = F at *
  clear hE hb b2 hF
  have hI := index_kind F w.heap.size e.kind W2 hl2 hr2 hE2.c0 hE2.lt
  go_wp2_with (go_at_call 36; refine hI.mono ?_)
  rintro e1 W3 ⟨rfl, b3⟩
  have hE3 := hE2.below hE2.lt b3
  have hb3 := hb2.trans (b3.mono (Nat.le_of_lt hE2.lt))
  have hr3 := hr2.below hl2 b3
  have hl3 := Nat.lt_of_lt_of_le hl2 b3.size
  clear hI hE2 hb2 hr2 hl2 b3
  rcases idxK_go e.kind 21 0 rfl with ⟨hi, hfd⟩ | ⟨i, hi21, hi, hfd⟩
  · rw [hi]
    rw [List.drop_zero] at hfd
    have hres : formatS e = none := by unfold formatS; rw [hfd]; rfl
    have HR := Lib.hid hres
    clear hi hfd hres
    go_wp2
    exact bodyPost_ret (v := .tuple #[.string ⟨#[]⟩, .int .i64 7]) (by simp [results, Tryz.results19, go_sem]) rfl ⟨hb3, .inr ⟨HR.out, rfl⟩⟩
  · rw [hi]
    rw [List.drop_zero] at hfd
    have hres : formatS e = if lineS (textF (formAt i) e) = some e ∧ (textF (formAt i) e).length ≤ 32768 then some (textF (formAt i) e) else none := by unfold formatS; rw [hfd]; rfl
    have HR := Lib.hid hres
    have c0 := hr3.verb i hi21
    have c1 := hr3.kinds i hi21
    rw [show 3 * i = i * 3 from by omega] at c0 c1
    have hm := formAt_mem hi21
    have hka := (kstrAt i hi21).2.2.1
    have hk5 := (kstrAt i hi21).2.2.2
    generalize formAt i = f at *
    have HM := Lib.hid hm
    have HK := Lib.hid hka
    clear hi hfd hres hr3 hm hka
    have h0 := FL.first f hb3 hE3
    have hlw : w.heap.size < W3.heap.size + 1 := Nat.lt_succ_of_lt hE3.lt
    generalize hIT : W3.heap.size + 1 = IT at *
    have HIT := Lib.hid hIT
    clear hIT
    go_wp2
    rw [HIT.out]
    go_loopw [6] (fun v wr => ∃ pos, pos ≤ (kstr f).length ∧ FL w e h f IT pos v wr) (fun _ wr => (kstr f).length - wr.iterPos IT)
    case atStart => exact ⟨0, Nat.zero_le _, h0⟩
    case round =>
      obtain ⟨pos, hpos, hI⟩ := hrel
      have hit0 := hI.iter
      by_cases hfl : pos < f.kinds.length
      · have hne := HK.out _ (List.getElem_mem hfl)
        have hwa := wordsAt_fld (e := e) hfl
        obtain ⟨wi, hnx, hfm, hit⟩ := hI.next hlw (kstr_fld hfl) (rune_ascii _)
        rw [rune_int] at hnx
        obtain ⟨hr1, hr2, hr3⟩ := runeF_ne hne
        have hP := put_ok _ hne e h wi he (hg.below hfm.below)
        have hlt : pos < (kstr f).length := by rw [kstr_len]; omega
        generalize f.kinds[pos] = fld at *
        generalize wordF e fld = wd at *
        generalize runeF fld = rn at *
        have HWA := Lib.hid hwa
        have hwl := wordsAt_len f e pos
        clear hwa hI h0 hA hE3 hb3 c0 c1 hht hT
        unfold evV ecells at hP
        have d0 := hfm.evt.c0
        have d1 := hfm.evt.c1
        have d2 := hfm.evt.c2
        have d3 := hfm.evt.c3
        have d4 := hfm.evt.c4
        have d5 := hfm.evt.c5
        have d6 := hfm.evt.c6
        have d7 := hfm.evt.c7
        have d8 := hfm.evt.c8
        have d9 := hfm.evt.c9
        have d10 := hfm.evt.c10
        go_wp2_with (go_at_call 38; refine hP.mono ?_)
        rintro e1 W4 ⟨rfl, b4⟩
        have hfm4 := hfm.step b4
        have hit4 := (b4.block IT (Array.getElem?_eq_some_iff.1 hit).1).trans hit
        clear hP b4 hfm hit hnx d0 d1 d2 d3 d4 d5 d6 d7 d8 d9 d10
        go_wp2_with (at_builtin; refine wpList_append_own _ rfl _ _ 60 rfl (w.heap.size + 1) 9 i0 _ 1 16 und60 hi0 hz0 hz1 hz2 rfl (by decide) _ (wordsAt f e pos).length (strs (wordsAt f e pos)) rfl (hfm4.row.alloc _) ⟨W4.heap.size, 0, none⟩ 1 1 [.string ⟨wd.toArray⟩] rfl rfl (cell_new _ _ _) (fun u hu => by rw [List.mem_singleton.1 hu]; rfl) (by unfold maxLen; omega) (by omega) (by have := hfm4.lt; simp; omega) ?_; intro v1 w1 hown1 hgrow1 _hnil)
        have hfm5 := hfm4.push hown1 hgrow1
        have hit5 := iter_keep hit4 hfm4.row hgrow1
        rw [← HWA.out] at hfm5
        clear hown1 hgrow1 hfm4 hit4
        go_roundw
        case rel => exact ⟨pos + 1, by omega, hit5, hfm5⟩
        case measure => simp only [World.iterPos, hit5, hit0]; omega
      · by_cases hend : pos < (kstr f).length
        · have hmany : f.many = true := by
            rw [kstr_len] at hend
            cases hq : f.many with
            | true => rfl
            | false => rw [hq] at hend; simp at hend; omega
          have hps : pos = f.kinds.length := by rw [kstr_len, hmany, if_pos rfl] at hend; omega
          obtain ⟨wi, hnx, hfm, hit⟩ := hI.next hlw (by rw [hps]; exact kstr_many hmany) (by decide)
          rw [show ((42 : UInt8).toNat : Int) = 42 from rfl] at hnx
          have hwm := wordsAt_many (f := f) (e := e)
          rw [← hps] at hwm
          have hwl := wordsAt_len f e pos
          have hd10 : wi.cell? ⟨w.heap.size, 10, none⟩ = some (.slice A e.hist.length c) := by rw [HH.out]; exact hfm.evt.c10
          have hh6 : ∀ k (hk : k < e.hist.length), (e.hist.take (k + 1)).map (fun r => Sp.wr r.text) = (e.hist.take k).map (fun r => Sp.wr r.text) ++ [Sp.wr (rv e.hist k).text] := fun k hk => by
            rw [List.take_succ_eq_append_getElem hk, List.map_append]
            unfold rv
            rw [List.getD_eq_getElem?_getD, List.getElem?_eq_getElem hk]; rfl
          have hhn : (e.hist.take e.hist.length).map (fun r => Sp.wr r.text) = e.hist.map (fun r => Sp.wr r.text) := by rw [List.take_length]
          have hl6 : ∀ k, ((e.hist.take k).map (fun r => Sp.wr r.text)).length ≤ k := fun k => by rw [List.length_map, List.length_take]; omega
          generalize hn : e.hist.length = n at *
          have HN := Lib.hid hn
          have HWM := Lib.hid hwm
          have HH6 := Lib.hid hh6
          have HHN := Lib.hid hhn
          clear hn hwm hh6 hhn hI h0 hE3 hb3 c0 c1 hT
          go_wp2
          go_loopw [6, 46] (fun v j wq => ∃ k : Nat, k ≤ n ∧ j = .int .i64 k ∧ wq.heap[IT]? = some (.stringIter ⟨(kstr f).toArray⟩ (pos + 1)) ∧ FmR w wq e h v (wordsAt f e pos ++ (e.hist.take k).map (fun r => Sp.wr r.text))) (fun _ j _ => n - (intOf j).toNat)
          case atStart => exact ⟨0, Nat.zero_le _, rfl, hit, by rw [List.take_zero, List.map_nil, List.append_nil]; exact hfm⟩
          case round =>
            obtain ⟨k, hk, rfl, hitq, hfq⟩ := hrel
            by_cases hkn : k < n
            · obtain ⟨g, o, rfl, hgl, hra⟩ := hA k (by rw [HN.out]; exact hkn)
              have hra := hra.keep (hfq.below.block g hgl)
              have hwr := fun W => writeL (rv e.hist k).text W (hht k)
              have hstep : wordsAt f e pos ++ (e.hist.take (k + 1)).map (fun r => Sp.wr r.text) = (wordsAt f e pos ++ (e.hist.take k).map (fun r => Sp.wr r.text)) ++ [Sp.wr (rv e.hist k).text] := by rw [HH6.out k hkn, List.append_assoc]
              have hlk := hl6 k
              generalize rv e.hist k = rk at *
              generalize (e.hist.take k).map (fun r => Sp.wr r.text) = Lk at *
              have hll : (wordsAt f e pos ++ Lk).length ≤ 4294967310 + n := by rw [List.length_append]; omega
              have HST := Lib.hid hstep
              obtain ⟨a0, a1, a2, a3, a4, a5⟩ := hra
              clear hstep hfm hit hnx hA hg he hht hl6 hd10 hit0 hwl
              generalize wordsAt f e pos ++ Lk = L at *
              have hx : Below wr.heap.size wr (wr.alloc (.cells #[.int .i64 rk.number, .string ⟨rk.user.toArray⟩, .string ⟨rk.note.toArray⟩, .string ⟨rk.text.toArray⟩, .int .i64 rk.minute, .int .i64 rk.seq] 66)) := (Below.refl _ _).alloc (Nat.le_refl _) _
              have hfq2 := hfq.step hx
              have hit2 := (hx.block IT (Array.getElem?_eq_some_iff.1 hitq).1).trans hitq
              have hxs := hx.size
              clear hfq hx hitq
              go_wp2_with (go_at_call 39; refine (hwr _).mono ?_)
              generalize wr.alloc (.cells #[.int .i64 rk.number, .string ⟨rk.user.toArray⟩, .string ⟨rk.note.toArray⟩, .string ⟨rk.text.toArray⟩, .int .i64 rk.minute, .int .i64 rk.seq] 66) = W4 at *
              rintro e1 W5 ⟨rfl, b5⟩
              have hfm5 := hfq2.step b5
              have hit5 := (b5.block IT (Array.getElem?_eq_some_iff.1 hit2).1).trans hit2
              clear hwr b5 hfq2 hit2
              generalize Sp.wr rk.text = wd at *
              go_wp2_with (at_builtin; refine wpList_append_own _ rfl _ _ 60 rfl (w.heap.size + 1) 9 i0 _ 1 16 und60 hi0 hz0 hz1 hz2 rfl (by decide) _ L.length (strs L) rfl (hfm5.row.alloc _) ⟨W5.heap.size, 0, none⟩ 1 1 [.string ⟨wd.toArray⟩] rfl rfl (cell_new _ _ _) (fun u hu => by rw [List.mem_singleton.1 hu]; rfl) (by unfold maxLen; omega) (by omega) (by have := hfm5.lt; simp; omega) ?_; intro v1 w1 hown1 hgrow1 _hnil)
              have hfm6 := hfm5.push hown1 hgrow1
              have hit6 := iter_keep hit5 hfm5.row hgrow1
              clear hown1 hgrow1 hfm5 hit5
              go_roundw
              case rel => exact ⟨k + 1, by omega, by go_num, hit6, by rw [HST.out]; exact hfm6⟩
              case measure => simp [intOf]; omega
            · have hkn2 : k = n := by omega
              subst hkn2
              have hfq2 : FmR w wr e h u6 (wordsAt f e (pos + 1)) := by rw [HWM.out, ← HHN.out]; exact hfq
              clear hfm hit hnx hA hg he hht hl6 hd10 hwl hfq HH6 HHN HWM
              go_wp2
              go_roundw
              case rel => exact ⟨pos + 1, by omega, hitq, hfq2⟩
              case measure => simp only [World.iterPos, hitq, hit0]; omega
        · have hnx := fun ty => Lib.run_next_end_at (P := Tryz.prog) wr IT ⟨(kstr f).toArray⟩ pos ty hI.iter (by show ¬ pos < (kstr f).length; omega)
          have hwl := wordsAt_len f e pos
          have hfm := hI.fm
          rw [show pos = (kstr f).length from by omega, wordsAt_end] at hfm hwl
          have hT1 := hT f HM.out
          have hJ := joinOwn 32 (show 0 < (wordsF f e).length from Nat.zero_lt_succ _) hfm.row (by omega) (by show (textF f e).length ≤ _; omega)
          change Calls _ _ _ _ (RetB (.string ⟨(textF f e).toArray⟩) wr) at hJ
          have hPar := fun W hgW => parse_try ⟨(textF f e).toArray⟩ W (show (textF f e).length < 4294960000 from hT1) hgW
          change ∀ W, GlN W → Calls _ _ _ W (RetE (textF f e) W) at hPar
          have hgw := hg.below hfm.below
          have hEq := fun (x : Ev) (B : Option Addr) (d : Nat) W (hx : x.hist.length ≤ 9223372036854775807) hB hA => event_equal x e B A d c W hx hB hA
          clear hI h0 hE3 hb3 c0 c1 hT he hht hg hwl
          generalize textF f e = t at *
          go_wp2_with (go_at_call 40; refine hJ.mono ?_)
          rintro e1 W4 ⟨rfl, b4⟩
          have hfm4 := hfm.step b4
          have hgw4 := hgw.below b4
          clear hJ b4 hfm hnx hit0 hgw
          go_wp2_with (go_at_call 41; refine (hPar _ hgw4).mono ?_)
          rintro e1 W5 ⟨b5, hres⟩
          have hfm5 := hfm4.step b5
          clear b5 hfm4 hgw4 hPar
          rcases hres with ⟨hno, x, A2, m, c2, rfl⟩ | ⟨x, h2, hso, rfl, ho5⟩
          · have hres : formatS e = none := by rw [HR.out, if_neg (fun h => by rw [hno] at h; cases h.1)]
            have HZ := Lib.hid hres
            have hB6 := hfm5.below.trans (((Below.refl _ W5).alloc (Nat.le_refl _) (.cells (ecells x (.slice A2 m c2)) 33)).mono hfm5.below.size)
            clear hno hres hEq hA HR
            unfold ecells at hB6
            unfold evV ecells
            go_wp2
            exact bodyPost_ret (v := .tuple #[.string ⟨#[]⟩, .int .i64 7]) (by simp [results, Tryz.results19, go_sem]) rfl ⟨hB6, .inr ⟨HZ.out, rfl⟩⟩
          · have hxl := owns_max ho5
            obtain ⟨B, m, d, rfl⟩ := owns_slice ho5
            obtain ⟨rfl, hB⟩ := owns_rd ho5
            obtain ⟨hX, hbX⟩ := EBlk.one W5 x (.slice B x.hist.length d)
            have hfm6 := hfm5.step hbX
            have hlt6 := hX.lt
            have hE6 := hEq x B d (W5.alloc (.cells (ecells x (.slice B x.hist.length d)) 33)) hxl (hB.below hbX) (fun i hi => by
              obtain ⟨g, o, h1, h2, h3⟩ := hA i hi
              exact ⟨g, o, h1, Nat.lt_of_lt_of_le h2 hfm6.below.size, h3.keep (hfm6.below.block g h2)⟩)
            have hd10 : (W5.alloc (.cells (ecells x (.slice B x.hist.length d)) 33)).cell? ⟨w.heap.size, 10, none⟩ = some (.slice A e.hist.length c) := by rw [HH.out]; exact hfm6.evt.c10
            have hres : formatS e = if x = e ∧ t.length ≤ 32768 then some t else none := by rw [HR.out, hso]; simp only [Option.some.injEq]
            have HZ := Lib.hid hres
            clear hEq hA HR hB ho5 hfm5 hbX hso hres
            unfold evV at hE6 ⊢
            unfold ecells at *
            go_upto_region 18 with fail
            generalize W5.alloc _ = W6 at *
            have d0 := hfm6.evt.c0
            have d1 := hfm6.evt.c1
            have d2 := hfm6.evt.c2
            have d3 := hfm6.evt.c3
            have d4 := hfm6.evt.c4
            have d5 := hfm6.evt.c5
            have d6 := hfm6.evt.c6
            have d7 := hfm6.evt.c7
            have d8 := hfm6.evt.c8
            have d9 := hfm6.evt.c9
            have x0 := hX.c0
            have x1 := hX.c1
            have x2 := hX.c2
            have x3 := hX.c3
            have x4 := hX.c4
            have x5 := hX.c5
            have x6 := hX.c6
            have x7 := hX.c7
            have x8 := hX.c8
            have x9 := hX.c9
            have x10 := hX.c10
            have hb6 := hfm6.below
            clear hfm6 hX
            by_cases hxe : x = e
            · rw [decide_eq_true hxe] at hE6
              by_cases hlen : t.length ≤ 32768
              · have HY := Lib.hid (show formatS e = some t by rw [HZ.out, if_pos ⟨hxe, hlen⟩])
                clear hxe HZ
                go_wp2_with (go_at_call 42; refine hE6.mono ?_)
                rintro e1 W7 ⟨rfl, b7⟩
                have hb7 := hb6.trans (b7.mono hb6.size)
                clear hE6 b7 hb6
                go_wp2
                exact bodyPost_ret (v := .tuple #[.string ⟨t.toArray⟩, .int .i64 0]) (by simp [results, Tryz.results19, go_sem]) rfl ⟨hb7, .inl ⟨t, HY.out, rfl⟩⟩
              · have HY := Lib.hid (show formatS e = none by rw [HZ.out, if_neg (fun h => hlen h.2)])
                have hlen2 : (32768 : Int) < t.length := by omega
                clear hxe HZ
                go_wp2_with (go_at_call 42; refine hE6.mono ?_)
                rintro e1 W7 ⟨rfl, b7⟩
                have hb7 := hb6.trans (b7.mono hb6.size)
                clear hE6 b7 hb6
                go_wp2
                exact bodyPost_ret (v := .tuple #[.string ⟨#[]⟩, .int .i64 7]) (by simp [results, Tryz.results19, go_sem]) rfl ⟨hb7, .inr ⟨HY.out, rfl⟩⟩
            · rw [decide_eq_false hxe] at hE6
              have HY := Lib.hid (show formatS e = none by rw [HZ.out, if_neg (fun h => hxe h.1)])
              clear hxe HZ
              go_wp2_with (go_at_call 42; refine hE6.mono ?_)
              rintro e1 W7 ⟨rfl, b7⟩
              have hb7 := hb6.trans (b7.mono hb6.size)
              clear hE6 b7 hb6
              go_wp2
              exact bodyPost_ret (v := .tuple #[.string ⟨#[]⟩, .int .i64 7]) (by simp [results, Tryz.results19, go_sem]) rfl ⟨hb7, .inr ⟨HY.out, rfl⟩⟩
end Go.Proofs
namespace Go.Proofs
open Go.RowKit Go.Sp
def pv (ps : List (Ev × Value)) (i : Nat) : Ev × Value := ps.getD i (ev0 0, .slice none 0 0)
/-- An event that can be read, from cell p of block g on. -/
structure EvAt (w : World) (g p : Nat) (e : Ev) (h : Value) : Prop where
  c0 : w.cell? ⟨g, p, none⟩ = some (.int .i64 e.kind)
  c1 : w.cell? ⟨g, p + 1, none⟩ = some (.string ⟨e.user.toArray⟩)
  c2 : w.cell? ⟨g, p + 2, none⟩ = some (.string ⟨e.note.toArray⟩)
  c3 : w.cell? ⟨g, p + 3, none⟩ = some (.int .i64 e.tSp)
  c4 : w.cell? ⟨g, p + 4, none⟩ = some (.string ⟨e.tN.toArray⟩)
  c5 : w.cell? ⟨g, p + 5, none⟩ = some (.int .i64 e.oSp)
  c6 : w.cell? ⟨g, p + 6, none⟩ = some (.string ⟨e.oN.toArray⟩)
  c7 : w.cell? ⟨g, p + 7, none⟩ = some (.string ⟨e.text.toArray⟩)
  c8 : w.cell? ⟨g, p + 8, none⟩ = some (.int .i64 e.base)
  c9 : w.cell? ⟨g, p + 9, none⟩ = some (.int .i64 e.n)
  c10 : w.cell? ⟨g, p + 10, none⟩ = some h
theorem EvAt.keep {w w' : World} {g p : Nat} {e : Ev} {h : Value} (k : EvAt w g p e h) (q : w'.heap[g]? = w.heap[g]?) : EvAt w' g p e h :=
  ⟨(World.cell?_of_block (a := ⟨g, p, none⟩) q).trans k.c0, (World.cell?_of_block (a := ⟨g, p + 1, none⟩) q).trans k.c1, (World.cell?_of_block (a := ⟨g, p + 2, none⟩) q).trans k.c2, (World.cell?_of_block (a := ⟨g, p + 3, none⟩) q).trans k.c3, (World.cell?_of_block (a := ⟨g, p + 4, none⟩) q).trans k.c4, (World.cell?_of_block (a := ⟨g, p + 5, none⟩) q).trans k.c5, (World.cell?_of_block (a := ⟨g, p + 6, none⟩) q).trans k.c6, (World.cell?_of_block (a := ⟨g, p + 7, none⟩) q).trans k.c7, (World.cell?_of_block (a := ⟨g, p + 8, none⟩) q).trans k.c8, (World.cell?_of_block (a := ⟨g, p + 9, none⟩) q).trans k.c9, (World.cell?_of_block (a := ⟨g, p + 10, none⟩) q).trans k.c10⟩
/-- A list of events that can be read. -/
def EvsRd (w : World) (A : Option Addr) (ps : List (Ev × Value)) : Prop := ∀ i, i < ps.length → ∃ g o B d, A = some ⟨g, o, none⟩ ∧ g < w.heap.size ∧ (pv ps i).2 = .slice B (pv ps i).1.hist.length d ∧ EvAt w g (o + i * 11) (pv ps i).1 (.slice B (pv ps i).1.hist.length d) ∧ HRd w B (pv ps i).1.hist ∧ (pv ps i).1.hist.length ≤ 9223372036854775807
theorem EvsRd.below {w w' : World} {A : Option Addr} {ps : List (Ev × Value)} (h : EvsRd w A ps) (x : Below w.heap.size w w') : EvsRd w' A ps := fun i hi => by
  obtain ⟨g, o, B, d, h1, h2, h3, h4, h5, h6⟩ := h i hi
  exact ⟨g, o, B, d, h1, Nat.lt_of_lt_of_le h2 x.size, h3, h4.keep (x.block g h2), h5.below x, h6⟩
theorem pcells_at : ∀ (ps : List (Ev × Value)) (i j : Nat), i < ps.length → j < 11 → (pcells ps)[i * 11 + j]? = (ecells (pv ps i).1 (pv ps i).2).toList[j]?
  | [], _, _, h, _ => by cases h
  | p :: ps, 0, j, _, hj => by
    rw [Nat.zero_mul, Nat.zero_add]
    show ((ecells p.1 p.2).toList ++ pcells ps)[j]? = _
    rw [List.getElem?_append_left (by simpa [ecells] using hj)]; rfl
  | p :: ps, i + 1, j, h, hj => by
    show ((ecells p.1 p.2).toList ++ pcells ps)[(i + 1) * 11 + j]? = _
    have hlen : (ecells p.1 p.2).toList.length = 11 := rfl
    rw [List.getElem?_append_right (by rw [hlen]; omega), hlen, show (i + 1) * 11 + j - 11 = i * 11 + j from by omega, pcells_at ps i j (by simpa using h) hj]
    rfl
theorem evs_rd {w : World} {base : Nat} {A : Option Addr} {m c : Nat} {ps : List (Ev × Value)} (h : EvsOwn w base (.slice A m c) ps) : m = ps.length ∧ EvsRd w A ps := by
  rcases h.row.2 with ⟨hv, hn⟩ | ⟨g, cap, cur, hv, hb, hg, hr⟩
  · injection hv with h1 h2 h3
    exact ⟨by omega, fun i hi => by omega⟩
  · injection hv with h1 h2 h3
    subst h1 h2
    have hc := h.row.cells (g := g) rfl
    have hadd : ∀ j, (⟨g, 0, none⟩ : Addr).add j = ⟨g, j, none⟩ := fun j => by unfold Addr.add; split <;> simp_all
    refine ⟨rfl, fun i hi => ?_⟩
    have hm : pv ps i ∈ ps := by
      unfold pv
      rw [List.getD_eq_getElem?_getD, List.getElem?_eq_getElem hi]
      exact List.getElem_mem hi
    have ho := h.hist _ hm
    obtain ⟨B, m, d, hv⟩ := owns_slice ho
    rw [hv] at ho
    obtain ⟨rfl, hB⟩ := owns_rd ho
    have hx : ∀ j u, j < 11 → (ecells (pv ps i).1 (pv ps i).2).toList[j]? = some u → w.cell? ⟨g, i * 11 + j, none⟩ = some u := fun j u hj hu => by
      rw [← hadd]; exact hc _ _ ((pcells_at ps i j hi hj).trans hu)
    refine ⟨g, 0, B, d, rfl, (Array.getElem?_eq_some_iff.1 hg).1, hv, ?_, hB, owns_max ho⟩
    rw [Nat.zero_add, ← hv]
    exact ⟨hx 0 _ (by decide) rfl, hx 1 _ (by decide) rfl, hx 2 _ (by decide) rfl, hx 3 _ (by decide) rfl, hx 4 _ (by decide) rfl, hx 5 _ (by decide) rfl, hx 6 _ (by decide) rfl, hx 7 _ (by decide) rfl, hx 8 _ (by decide) rfl, hx 9 _ (by decide) rfl, hx 10 _ (by decide) rfl⟩
theorem pair_ext {a b : List (Ev × Value)} (h : a.length = b.length) (hx : ∀ i, i < a.length → (pv a i).1 = (pv b i).1) : a.map (·.1) = b.map (·.1) := by
  refine List.ext_getElem (by simpa using h) fun i h1 h2 => ?_
  have h1' : i < a.length := by simpa using h1
  have h2' : i < b.length := by simpa using h2
  have := hx i h1'
  unfold pv at this
  rw [List.getD_eq_getElem?_getD, List.getD_eq_getElem?_getD, List.getElem?_eq_getElem h1', List.getElem?_eq_getElem h2'] at this
  simpa using this
theorem pair_at {a : List (Ev × Value)} {i : Nat} (h : i < a.length) : (a.map (·.1))[i]? = some (pv a i).1 := by
  unfold pv
  rw [List.getElem?_map, List.getD_eq_getElem?_getD, List.getElem?_eq_getElem h]; rfl
set_option maxRecDepth 100000 in
set_option maxHeartbeats 4000000 in
theorem same_events (A B : Option Addr) (c d : Nat) (l m : List (Ev × Value)) (w : World) (hmx : l.length ≤ 9223372036854775807) (hA : EvsRd w A l) (hB : EvsRd w B m) : Calls Tryz.prog 22 #[.slice A l.length c, .slice B m.length d] w (RetB (.bool (decide (l.map (·.1) = m.map (·.1)))) w) := by
  by_cases hlen : l.length = m.length
  · have hne : ∀ k, k < l.length → (pv l k).1 ≠ (pv m k).1 → decide (l.map (·.1) = m.map (·.1)) = false := fun k hk h => by
      rw [decide_eq_false_iff_not]
      intro hq
      have h1 := pair_at hk
      rw [hq, pair_at (by omega)] at h1
      exact h (Option.some.inj h1).symm
    have heq : (∀ i, i < l.length → (pv l i).1 = (pv m i).1) → decide (l.map (·.1) = m.map (·.1)) = true := fun h => by
      rw [decide_eq_true_iff]; exact pair_ext hlen h
    generalize decide (l.map (·.1) = m.map (·.1)) = r at *
    have HNE := Lib.hid hne
    have HEQ := Lib.hid heq
    clear hne heq
    go_enter Tryz.func22, Tryz.ntmps22
    generalize hn : l.length = n at *
    generalize hn2 : m.length = n2 at *
    subst hlen
    have HN := Lib.hid hn
    have HN2 := Lib.hid hn2
    clear hn hn2
    go_wp2
    go_loopw [5] (fun i wr => ∃ (k : Nat), k ≤ n ∧ i = .int .i64 k ∧ Below w.heap.size w wr ∧ ∀ i, i < k → (pv l i).1 = (pv m i).1) (fun i _ => n - (intOf i).toNat)
    case atStart => exact ⟨0, Nat.zero_le _, rfl, Below.refl _ _, fun i hi => by omega⟩
    case round =>
      obtain ⟨k, hk, rfl, hW, hx⟩ := hrel
      by_cases hkn : k < n
      · obtain ⟨g, o, B1, d1, rfl, hg, _, hra, hb1, hm1⟩ := hA k (by rw [HN.out]; exact hkn)
        obtain ⟨g', o', B2, d2, rfl, hg', _, hrb, hb2, _⟩ := hB k (by rw [HN2.out]; exact hkn)
        have hra := hra.keep (hW.block g hg)
        have hrb := hrb.keep (hW.block g' hg')
        have hS := fun W (x : Below w.heap.size w W) => event_same (pv l k).1 (pv m k).1 B1 B2 d1 d2 W hm1 (hb1.below x) (hb2.below x)
        have hbad := fun h => HNE.out k hkn h
        have hgood : (pv l k).1 = (pv m k).1 → ∀ i, i < k + 1 → (pv l i).1 = (pv m i).1 := fun h i hi => by
          by_cases hik : i < k
          · exact hx i hik
          · rw [show i = k from by omega]; exact h
        have HB := Lib.hid hbad
        have HG := Lib.hid hgood
        clear hbad hgood hx hA hB hb1 hb2 hm1
        generalize (pv l k).1 = ra at *
        generalize (pv m k).1 = rb at *
        obtain ⟨a0, a1, a2, a3, a4, a5, a6, a7, a8, a9, a10⟩ := hra
        obtain ⟨b0, b1, b2, b3, b4, b5, b6, b7, b8, b9, b10⟩ := hrb
        have hS2 := hS wr.drew hW.drew
        unfold evV ecells at hS2
        clear hS
        by_cases hab : ra = rb
        · have HG2 := Lib.hid (HG.out hab)
          rw [decide_eq_true hab] at hS2
          clear HG HB hab
          go_wp2
          go_region_with (go_at_call 21; refine hS2.mono ?_; rintro e W1 ⟨rfl, b1⟩; have hW1 := hW.drew.trans (b1.mono hW.size))
          all_goals
            clear hS2 hW
            go_wp2
            go_roundw
            case rel => exact ⟨k + 1, by omega, by go_num, hW1, HG2.out⟩
            case measure => simp [intOf]; omega
        · have HR := Lib.hid (HB.out hab)
          rw [decide_eq_false hab] at hS2
          clear HG HB hab
          go_wp2
          go_region_with (go_at_call 21; refine hS2.mono ?_; rintro e W1 ⟨rfl, b1⟩; have hW1 := hW.drew.trans (b1.mono hW.size))
          all_goals
            clear hS2 hW
            go_wp2
            go_ret
            exact ⟨by rw [HR.out]; rfl, hW1⟩
      · have hkn2 : k = n := by omega
        subst hkn2
        have HR := Lib.hid (HEQ.out hx)
        clear hx hA hB
        go_wp2
        go_ret
        exact ⟨by rw [HR.out]; rfl, hW⟩
  · have hr : decide (l.map (·.1) = m.map (·.1)) = false := by rw [decide_eq_false_iff_not]; intro h; exact hlen (by simpa using congrArg List.length h)
    rw [hr]
    go_enter Tryz.func22, Tryz.ntmps22
    generalize l.length = n at *
    generalize m.length = n2 at *
    have hn : ¬ (n : Int) = n2 := by omega
    clear hr hA hB hmx
    go_wp2
    go_ret
    exact ⟨rfl, Below.refl _ _⟩
end Go.Proofs
