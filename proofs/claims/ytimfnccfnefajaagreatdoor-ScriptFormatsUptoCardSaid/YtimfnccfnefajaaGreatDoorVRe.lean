/- A part of the proof: Rq, Rr -/
import Derived.Test.YtimfnccfnefajaaGreatDoorVRd
import Derived.Test.YtimfnccfnefajaaGreatDoorVWg
set_option linter.unusedSimpArgs false
set_option linter.unusedVariables false
namespace Go.Proofs
open Go.RowKit Go.Sp
theorem EBlk.far {W:World} {b c i:Nat} {e:Ev} {h x:Value} (k:EBlk W b e h) (hne:b≠c):EBlk (W.setCell ⟨c,i,none⟩ x) b e h :=
 k.keep (Below.heap_setCell _ _ _ _ hne) (by simp)
theorem EBlk.box (w:World) (e:Ev) (h:Value):EBlk ((w.alloc (.cells (ecells e h) 33)).alloc (.cells #[.int .i64 0,.string ⟨#[]⟩,.string ⟨#[]⟩,.int .i64 0,.string ⟨#[]⟩,.int .i64 0,.string ⟨#[]⟩,.string ⟨#[]⟩,.int .i64 0,.int .i64 0,.slice none 0 0] 33)) w.heap.size e h∧EBlk ((w.alloc (.cells (ecells e h) 33)).alloc (.cells #[.int .i64 0,.string ⟨#[]⟩,.string ⟨#[]⟩,.int .i64 0,.string ⟨#[]⟩,.int .i64 0,.string ⟨#[]⟩,.string ⟨#[]⟩,.int .i64 0,.int .i64 0,.slice none 0 0] 33)) (w.heap.size+1) (ev0 0) (.slice none 0 0)∧Below w.heap.size w ((w.alloc (.cells (ecells e h) 33)).alloc (.cells #[.int .i64 0,.string ⟨#[]⟩,.string ⟨#[]⟩,.int .i64 0,.string ⟨#[]⟩,.int .i64 0,.string ⟨#[]⟩,.string ⟨#[]⟩,.int .i64 0,.int .i64 0,.slice none 0 0] 33)):=EBlk.two w e (ev0 0) h (.slice none 0 0)
theorem putE_belowB {B:Nat} {w:World} (W:World) (b:Nat) (hb:B≤b) (x:Ev) (g:Value) (h:Below B w W):Below B w (putE W b x g) :=
 ((((((((((h.setCell (p:=⟨b,0,none⟩) hb _).setCell (p:=⟨b,1,none⟩) hb _).setCell (p:=⟨b,2,none⟩) hb _).setCell (p:=⟨b,3,none⟩) hb _).setCell (p:=⟨b,4,none⟩) hb _).setCell (p:=⟨b,5,none⟩) hb _).setCell (p:=⟨b,6,none⟩) hb _).setCell (p:=⟨b,7,none⟩) hb _).setCell (p:=⟨b,8,none⟩) hb _).setCell (p:=⟨b,9,none⟩) hb _).setCell (p:=⟨b,10,none⟩) hb _
theorem EBlk.setTitle {W:World} {b:Nat} {e:Ev} {h:Value} (k:EBlk W b e h) (sp:Int) (n:Bs):EBlk ((W.setCell ⟨b,3,none⟩ (.int .i64 sp)).setCell ⟨b,4,none⟩ (.string ⟨n.toArray⟩)) b { e with tSp:=sp,tN:=n } h:=(k.setTSp sp).setTN n
theorem EBlk.setTo {W:World} {b:Nat} {e:Ev} {h:Value} (k:EBlk W b e h) (sp:Int) (n:Bs):EBlk ((W.setCell ⟨b,5,none⟩ (.int .i64 sp)).setCell ⟨b,6,none⟩ (.string ⟨n.toArray⟩)) b { e with oSp:=sp,oN:=n } h:=(k.setOSp sp).setON n
set_option maxRecDepth 100000 in
set_option maxHeartbeats 4000000 in
theorem field_user (e:Ev) (A:Option Addr) (m c:Nat) (s:ByteArray) (w:World) (hs:s.size<2147480000):Calls Tryz.prog 90 #[evV e (.slice A m c),.int .u8 117,.string s] w (RetB (.tuple #[evV (fieldE e .user s.data.toList) (.slice A m c),.bool (fieldB .user s.data.toList)]) w):=by
 obtain ⟨hb,hr,hB⟩:=EBlk.box w e (.slice A m c)
 have hC:∀ W,Calls Tryz.prog 151 #[.string s] W (RetB (.tuple #[.string ⟨(textR s.data.toList).1.toArray⟩,.bool (textR s.data.toList).2]) W):=fun W=>(textR_ok s W hs).mono fun _ _ h=>h
 change Calls _ _ _ _ (RetB (.tuple #[evV { e with user:=(textR s.data.toList).1 } (.slice A m c),.bool (textR s.data.toList).2]) w)
 generalize (textR s.data.toList).1=t at *
 generalize (textR s.data.toList).2=ok at *
 unfold evV
 unfold ecells at *
 go_enter Tryz.func90,Tryz.ntmps90
 go_upto_region 1 with fail
 have hlt:w.heap.size+1<((w.alloc _).alloc _).heap.size:=hr.lt
 generalize (w.alloc _).alloc _=W0 at *
 go_upto_region 4 with fail
 go_wp2_with (go_at_call 151;refine (hC _).mono ?_)
 rintro e1 W1 ⟨rfl,b1⟩
 have hb1:=hb.below hb.lt b1
 have hr1:=hr.below hlt b1
 have hB1:=hB.trans (b1.mono hB.size)
 have f1:=hb1.fr 1 (by decide)
 have k1:=hb1.c1
 clear hb hr hB b1 hC
 go_upto_region 17 with fail
 have hb2:=hb1.setUser t
 have hr2:=hr1.far (c:=w.heap.size) (i:=1) (x:=.string ⟨t.toArray⟩) (Nat.succ_ne_self _)
 have hB2:=hB1.setCell (p:=⟨w.heap.size,1,none⟩) (Nat.le_refl _) (.string ⟨t.toArray⟩)
 generalize W1.setCell ⟨w.heap.size,1,none⟩ (.string ⟨t.toArray⟩)=W2 at *
 have c0:=hb2.c0
 have c1:=hb2.c1
 have c2:=hb2.c2
 have c3:=hb2.c3
 have c4:=hb2.c4
 have c5:=hb2.c5
 have c6:=hb2.c6
 have c7:=hb2.c7
 have c8:=hb2.c8
 have c9:=hb2.c9
 have c10:=hb2.c10
 have d0:=hr2.c0
 have d1:=hr2.c1
 have d2:=hr2.c2
 have d3:=hr2.c3
 have d4:=hr2.c4
 have d5:=hr2.c5
 have d6:=hr2.c6
 have d7:=hr2.c7
 have d8:=hr2.c8
 have d9:=hr2.c9
 have d10:=hr2.c10
 have g0:=hr2.fr 0 (by decide)
 have g1:=hr2.fr 1 (by decide)
 have g2:=hr2.fr 2 (by decide)
 have g3:=hr2.fr 3 (by decide)
 have g4:=hr2.fr 4 (by decide)
 have g5:=hr2.fr 5 (by decide)
 have g6:=hr2.fr 6 (by decide)
 have g7:=hr2.fr 7 (by decide)
 have g8:=hr2.fr 8 (by decide)
 have g9:=hr2.fr 9 (by decide)
 have g10:=hr2.fr 10 (by decide)
 have hF:=hr2.put { e with user:=t } (.slice A m c)
 have hFB:=putE_belowB W2 (w.heap.size+1) (Nat.le_succ _) { e with user:=t } (.slice A m c) hB2
 clear hb1 hr1 hB1 hb2 hr2 hB2 f1 k1
 go_wp2
 unfold putE at hF hFB
 generalize (World.setCell _ _ _:World)=WF at *
 have e0:=hF.c0
 have e1:=hF.c1
 have e2:=hF.c2
 have e3:=hF.c3
 have e4:=hF.c4
 have e5:=hF.c5
 have e6:=hF.c6
 have e7:=hF.c7
 have e8:=hF.c8
 have e9:=hF.c9
 have e10:=hF.c10
 exact bodyPost_ret (v:=.tuple #[evV { e with user:=t } (.slice A m c),.bool ok]) (by simp [results,Tryz.results90,go_sem,e0,e1,e2,e3,e4,e5,e6,e7,e8,e9,e10,evV,ecells]) rfl ⟨rfl,hFB⟩
set_option maxRecDepth 100000 in
set_option maxHeartbeats 4000000 in
theorem field_text (e:Ev) (A:Option Addr) (m c:Nat) (s:ByteArray) (w:World) (hs:s.size<2147480000):Calls Tryz.prog 90 #[evV e (.slice A m c),.int .u8 120,.string s] w (RetB (.tuple #[evV (fieldE e .text s.data.toList) (.slice A m c),.bool (fieldB .text s.data.toList)]) w):=by
 obtain ⟨hb,hr,hB⟩:=EBlk.box w e (.slice A m c)
 have hC:∀ W,Calls Tryz.prog 151 #[.string s] W (RetB (.tuple #[.string ⟨(textR s.data.toList).1.toArray⟩,.bool (textR s.data.toList).2]) W):=fun W=>(textR_ok s W hs).mono fun _ _ h=>h
 change Calls _ _ _ _ (RetB (.tuple #[evV { e with text:=(textR s.data.toList).1 } (.slice A m c),.bool (textR s.data.toList).2]) w)
 generalize (textR s.data.toList).1=t at *
 generalize (textR s.data.toList).2=ok at *
 unfold evV
 unfold ecells at *
 go_enter Tryz.func90,Tryz.ntmps90
 go_upto_region 1 with fail
 have hlt:w.heap.size+1<((w.alloc _).alloc _).heap.size:=hr.lt
 generalize (w.alloc _).alloc _=W0 at *
 go_upto_region 6 with fail
 go_wp2_with (go_at_call 151;refine (hC _).mono ?_)
 rintro e1 W1 ⟨rfl,b1⟩
 have hb1:=hb.below hb.lt b1
 have hr1:=hr.below hlt b1
 have hB1:=hB.trans (b1.mono hB.size)
 have f7:=hb1.fr 7 (by decide)
 have k7:=hb1.c7
 clear hb hr hB b1 hC
 go_upto_region 17 with fail
 have hb2:=hb1.setText t
 have hr2:=hr1.far (c:=w.heap.size) (i:=7) (x:=.string ⟨t.toArray⟩) (Nat.succ_ne_self _)
 have hB2:=hB1.setCell (p:=⟨w.heap.size,7,none⟩) (Nat.le_refl _) (.string ⟨t.toArray⟩)
 generalize W1.setCell ⟨w.heap.size,7,none⟩ (.string ⟨t.toArray⟩)=W2 at *
 have c0:=hb2.c0
 have c1:=hb2.c1
 have c2:=hb2.c2
 have c3:=hb2.c3
 have c4:=hb2.c4
 have c5:=hb2.c5
 have c6:=hb2.c6
 have c7:=hb2.c7
 have c8:=hb2.c8
 have c9:=hb2.c9
 have c10:=hb2.c10
 have d0:=hr2.c0
 have d1:=hr2.c1
 have d2:=hr2.c2
 have d3:=hr2.c3
 have d4:=hr2.c4
 have d5:=hr2.c5
 have d6:=hr2.c6
 have d7:=hr2.c7
 have d8:=hr2.c8
 have d9:=hr2.c9
 have d10:=hr2.c10
 have g0:=hr2.fr 0 (by decide)
 have g1:=hr2.fr 1 (by decide)
 have g2:=hr2.fr 2 (by decide)
 have g3:=hr2.fr 3 (by decide)
 have g4:=hr2.fr 4 (by decide)
 have g5:=hr2.fr 5 (by decide)
 have g6:=hr2.fr 6 (by decide)
 have g7:=hr2.fr 7 (by decide)
 have g8:=hr2.fr 8 (by decide)
 have g9:=hr2.fr 9 (by decide)
 have g10:=hr2.fr 10 (by decide)
 have hF:=hr2.put { e with text:=t } (.slice A m c)
 have hFB:=putE_belowB W2 (w.heap.size+1) (Nat.le_succ _) { e with text:=t } (.slice A m c) hB2
 clear hb1 hr1 hB1 hb2 hr2 hB2 f7 k7
 go_wp2
 unfold putE at hF hFB
 generalize (World.setCell _ _ _:World)=WF at *
 have e0:=hF.c0
 have e1:=hF.c1
 have e2:=hF.c2
 have e3:=hF.c3
 have e4:=hF.c4
 have e5:=hF.c5
 have e6:=hF.c6
 have e7:=hF.c7
 have e8:=hF.c8
 have e9:=hF.c9
 have e10:=hF.c10
 exact bodyPost_ret (v:=.tuple #[evV { e with text:=t } (.slice A m c),.bool ok]) (by simp [results,Tryz.results90,go_sem,e0,e1,e2,e3,e4,e5,e6,e7,e8,e9,e10,evV,ecells]) rfl ⟨rfl,hFB⟩
set_option maxRecDepth 100000 in
set_option maxHeartbeats 4000000 in
theorem field_note (e:Ev) (A:Option Addr) (m c:Nat) (s:ByteArray) (w:World) (hs:s.size<2147480000):Calls Tryz.prog 90 #[evV e (.slice A m c),.int .u8 109,.string s] w (RetB (.tuple #[evV (fieldE e .note s.data.toList) (.slice A m c),.bool (fieldB .note s.data.toList)]) w):=by
 obtain ⟨hb,hr,hB⟩:=EBlk.box w e (.slice A m c)
 have hC:∀ W,Calls Tryz.prog 151 #[.string s] W (RetB (.tuple #[.string ⟨(textR s.data.toList).1.toArray⟩,.bool (textR s.data.toList).2]) W):=fun W=>(textR_ok s W hs).mono fun _ _ h=>h
 change Calls _ _ _ _ (RetB (.tuple #[evV { e with note:=(textR s.data.toList).1 } (.slice A m c),.bool (textR s.data.toList).2]) w)
 generalize (textR s.data.toList).1=t at *
 generalize (textR s.data.toList).2=ok at *
 unfold evV
 unfold ecells at *
 go_enter Tryz.func90,Tryz.ntmps90
 go_upto_region 1 with fail
 have hlt:w.heap.size+1<((w.alloc _).alloc _).heap.size:=hr.lt
 generalize (w.alloc _).alloc _=W0 at *
 go_upto_region 8 with fail
 go_wp2_with (go_at_call 151;refine (hC _).mono ?_)
 rintro e1 W1 ⟨rfl,b1⟩
 have hb1:=hb.below hb.lt b1
 have hr1:=hr.below hlt b1
 have hB1:=hB.trans (b1.mono hB.size)
 have f2:=hb1.fr 2 (by decide)
 have k2:=hb1.c2
 clear hb hr hB b1 hC
 go_upto_region 17 with fail
 have hb2:=hb1.setNote t
 have hr2:=hr1.far (c:=w.heap.size) (i:=2) (x:=.string ⟨t.toArray⟩) (Nat.succ_ne_self _)
 have hB2:=hB1.setCell (p:=⟨w.heap.size,2,none⟩) (Nat.le_refl _) (.string ⟨t.toArray⟩)
 generalize W1.setCell ⟨w.heap.size,2,none⟩ (.string ⟨t.toArray⟩)=W2 at *
 have c0:=hb2.c0
 have c1:=hb2.c1
 have c2:=hb2.c2
 have c3:=hb2.c3
 have c4:=hb2.c4
 have c5:=hb2.c5
 have c6:=hb2.c6
 have c7:=hb2.c7
 have c8:=hb2.c8
 have c9:=hb2.c9
 have c10:=hb2.c10
 have d0:=hr2.c0
 have d1:=hr2.c1
 have d2:=hr2.c2
 have d3:=hr2.c3
 have d4:=hr2.c4
 have d5:=hr2.c5
 have d6:=hr2.c6
 have d7:=hr2.c7
 have d8:=hr2.c8
 have d9:=hr2.c9
 have d10:=hr2.c10
 have g0:=hr2.fr 0 (by decide)
 have g1:=hr2.fr 1 (by decide)
 have g2:=hr2.fr 2 (by decide)
 have g3:=hr2.fr 3 (by decide)
 have g4:=hr2.fr 4 (by decide)
 have g5:=hr2.fr 5 (by decide)
 have g6:=hr2.fr 6 (by decide)
 have g7:=hr2.fr 7 (by decide)
 have g8:=hr2.fr 8 (by decide)
 have g9:=hr2.fr 9 (by decide)
 have g10:=hr2.fr 10 (by decide)
 have hF:=hr2.put { e with note:=t } (.slice A m c)
 have hFB:=putE_belowB W2 (w.heap.size+1) (Nat.le_succ _) { e with note:=t } (.slice A m c) hB2
 clear hb1 hr1 hB1 hb2 hr2 hB2 f2 k2
 go_wp2
 unfold putE at hF hFB
 generalize (World.setCell _ _ _:World)=WF at *
 have e0:=hF.c0
 have e1:=hF.c1
 have e2:=hF.c2
 have e3:=hF.c3
 have e4:=hF.c4
 have e5:=hF.c5
 have e6:=hF.c6
 have e7:=hF.c7
 have e8:=hF.c8
 have e9:=hF.c9
 have e10:=hF.c10
 exact bodyPost_ret (v:=.tuple #[evV { e with note:=t } (.slice A m c),.bool ok]) (by simp [results,Tryz.results90,go_sem,e0,e1,e2,e3,e4,e5,e6,e7,e8,e9,e10,evV,ecells]) rfl ⟨rfl,hFB⟩
set_option maxRecDepth 100000 in
set_option maxHeartbeats 4000000 in
theorem field_num (e:Ev) (A:Option Addr) (m c:Nat) (s:ByteArray) (w:World) (hs:s.size<2147480000):Calls Tryz.prog 90 #[evV e (.slice A m c),.int .u8 110,.string s] w (RetB (.tuple #[evV (fieldE e .num s.data.toList) (.slice A m c),.bool (fieldB .num s.data.toList)]) w):=by
 obtain ⟨hb,hr,hB⟩:=EBlk.box w e (.slice A m c)
 have hC:∀ W,Calls Tryz.prog 152 #[.string s] W (RetB (.tuple #[.int .i64 (numberR s.data.toList).1,.bool (numberR s.data.toList).2]) W):=fun W=>(number_ok s W hs).mono fun _ _ h=>h
 change Calls _ _ _ _ (RetB (.tuple #[evV { e with n:=(numberR s.data.toList).1 } (.slice A m c),.bool (numberR s.data.toList).2]) w)
 generalize (numberR s.data.toList).1=t at *
 generalize (numberR s.data.toList).2=ok at *
 unfold evV
 unfold ecells at *
 go_enter Tryz.func90,Tryz.ntmps90
 go_upto_region 1 with fail
 have hlt:w.heap.size+1<((w.alloc _).alloc _).heap.size:=hr.lt
 generalize (w.alloc _).alloc _=W0 at *
 go_upto_region 10 with fail
 go_wp2_with (go_at_call 152;refine (hC _).mono ?_)
 rintro e1 W1 ⟨rfl,b1⟩
 have hb1:=hb.below hb.lt b1
 have hr1:=hr.below hlt b1
 have hB1:=hB.trans (b1.mono hB.size)
 have f9:=hb1.fr 9 (by decide)
 have k9:=hb1.c9
 clear hb hr hB b1 hC
 go_upto_region 17 with fail
 have hb2:=hb1.setN t
 have hr2:=hr1.far (c:=w.heap.size) (i:=9) (x:=.int .i64 t) (Nat.succ_ne_self _)
 have hB2:=hB1.setCell (p:=⟨w.heap.size,9,none⟩) (Nat.le_refl _) (.int .i64 t)
 generalize W1.setCell ⟨w.heap.size,9,none⟩ (.int .i64 t)=W2 at *
 have c0:=hb2.c0
 have c1:=hb2.c1
 have c2:=hb2.c2
 have c3:=hb2.c3
 have c4:=hb2.c4
 have c5:=hb2.c5
 have c6:=hb2.c6
 have c7:=hb2.c7
 have c8:=hb2.c8
 have c9:=hb2.c9
 have c10:=hb2.c10
 have d0:=hr2.c0
 have d1:=hr2.c1
 have d2:=hr2.c2
 have d3:=hr2.c3
 have d4:=hr2.c4
 have d5:=hr2.c5
 have d6:=hr2.c6
 have d7:=hr2.c7
 have d8:=hr2.c8
 have d9:=hr2.c9
 have d10:=hr2.c10
 have g0:=hr2.fr 0 (by decide)
 have g1:=hr2.fr 1 (by decide)
 have g2:=hr2.fr 2 (by decide)
 have g3:=hr2.fr 3 (by decide)
 have g4:=hr2.fr 4 (by decide)
 have g5:=hr2.fr 5 (by decide)
 have g6:=hr2.fr 6 (by decide)
 have g7:=hr2.fr 7 (by decide)
 have g8:=hr2.fr 8 (by decide)
 have g9:=hr2.fr 9 (by decide)
 have g10:=hr2.fr 10 (by decide)
 have hF:=hr2.put { e with n:=t } (.slice A m c)
 have hFB:=putE_belowB W2 (w.heap.size+1) (Nat.le_succ _) { e with n:=t } (.slice A m c) hB2
 clear hb1 hr1 hB1 hb2 hr2 hB2 f9 k9
 go_wp2
 unfold putE at hF hFB
 generalize (World.setCell _ _ _:World)=WF at *
 have e0:=hF.c0
 have e1:=hF.c1
 have e2:=hF.c2
 have e3:=hF.c3
 have e4:=hF.c4
 have e5:=hF.c5
 have e6:=hF.c6
 have e7:=hF.c7
 have e8:=hF.c8
 have e9:=hF.c9
 have e10:=hF.c10
 exact bodyPost_ret (v:=.tuple #[evV { e with n:=t } (.slice A m c),.bool ok]) (by simp [results,Tryz.results90,go_sem,e0,e1,e2,e3,e4,e5,e6,e7,e8,e9,e10,evV,ecells]) rfl ⟨rfl,hFB⟩
set_option maxRecDepth 100000 in
set_option maxHeartbeats 4000000 in
theorem field_base (e:Ev) (A:Option Addr) (m c:Nat) (s:ByteArray) (w:World) (hs:s.size<2147480000):Calls Tryz.prog 90 #[evV e (.slice A m c),.int .u8 98,.string s] w (RetB (.tuple #[evV (fieldE e .base s.data.toList) (.slice A m c),.bool (fieldB .base s.data.toList)]) w):=by
 obtain ⟨hb,hr,hB⟩:=EBlk.box w e (.slice A m c)
 have hC:∀ W,Calls Tryz.prog 152 #[.string s] W (RetB (.tuple #[.int .i64 (numberR s.data.toList).1,.bool (numberR s.data.toList).2]) W):=fun W=>(number_ok s W hs).mono fun _ _ h=>h
 change Calls _ _ _ _ (RetB (.tuple #[evV { e with base:=(numberR s.data.toList).1 } (.slice A m c),.bool (numberR s.data.toList).2]) w)
 generalize (numberR s.data.toList).1=t at *
 generalize (numberR s.data.toList).2=ok at *
 unfold evV
 unfold ecells at *
 go_enter Tryz.func90,Tryz.ntmps90
 go_upto_region 1 with fail
 have hlt:w.heap.size+1<((w.alloc _).alloc _).heap.size:=hr.lt
 generalize (w.alloc _).alloc _=W0 at *
 go_upto_region 12 with fail
 go_wp2_with (go_at_call 152;refine (hC _).mono ?_)
 rintro e1 W1 ⟨rfl,b1⟩
 have hb1:=hb.below hb.lt b1
 have hr1:=hr.below hlt b1
 have hB1:=hB.trans (b1.mono hB.size)
 have f8:=hb1.fr 8 (by decide)
 have k8:=hb1.c8
 clear hb hr hB b1 hC
 go_upto_region 17 with fail
 have hb2:=hb1.setBase t
 have hr2:=hr1.far (c:=w.heap.size) (i:=8) (x:=.int .i64 t) (Nat.succ_ne_self _)
 have hB2:=hB1.setCell (p:=⟨w.heap.size,8,none⟩) (Nat.le_refl _) (.int .i64 t)
 generalize W1.setCell ⟨w.heap.size,8,none⟩ (.int .i64 t)=W2 at *
 have c0:=hb2.c0
 have c1:=hb2.c1
 have c2:=hb2.c2
 have c3:=hb2.c3
 have c4:=hb2.c4
 have c5:=hb2.c5
 have c6:=hb2.c6
 have c7:=hb2.c7
 have c8:=hb2.c8
 have c9:=hb2.c9
 have c10:=hb2.c10
 have d0:=hr2.c0
 have d1:=hr2.c1
 have d2:=hr2.c2
 have d3:=hr2.c3
 have d4:=hr2.c4
 have d5:=hr2.c5
 have d6:=hr2.c6
 have d7:=hr2.c7
 have d8:=hr2.c8
 have d9:=hr2.c9
 have d10:=hr2.c10
 have g0:=hr2.fr 0 (by decide)
 have g1:=hr2.fr 1 (by decide)
 have g2:=hr2.fr 2 (by decide)
 have g3:=hr2.fr 3 (by decide)
 have g4:=hr2.fr 4 (by decide)
 have g5:=hr2.fr 5 (by decide)
 have g6:=hr2.fr 6 (by decide)
 have g7:=hr2.fr 7 (by decide)
 have g8:=hr2.fr 8 (by decide)
 have g9:=hr2.fr 9 (by decide)
 have g10:=hr2.fr 10 (by decide)
 have hF:=hr2.put { e with base:=t } (.slice A m c)
 have hFB:=putE_belowB W2 (w.heap.size+1) (Nat.le_succ _) { e with base:=t } (.slice A m c) hB2
 clear hb1 hr1 hB1 hb2 hr2 hB2 f8 k8
 go_wp2
 unfold putE at hF hFB
 generalize (World.setCell _ _ _:World)=WF at *
 have e0:=hF.c0
 have e1:=hF.c1
 have e2:=hF.c2
 have e3:=hF.c3
 have e4:=hF.c4
 have e5:=hF.c5
 have e6:=hF.c6
 have e7:=hF.c7
 have e8:=hF.c8
 have e9:=hF.c9
 have e10:=hF.c10
 exact bodyPost_ret (v:=.tuple #[evV { e with base:=t } (.slice A m c),.bool ok]) (by simp [results,Tryz.results90,go_sem,e0,e1,e2,e3,e4,e5,e6,e7,e8,e9,e10,evV,ecells]) rfl ⟨rfl,hFB⟩
set_option maxRecDepth 100000 in
set_option maxHeartbeats 4000000 in
theorem field_title (e:Ev) (A:Option Addr) (m c:Nat) (s:ByteArray) (w:World) (hs:s.size<2147480000):Calls Tryz.prog 90 #[evV e (.slice A m c),.int .u8 116,.string s] w (RetB (.tuple #[evV (fieldE e .title s.data.toList) (.slice A m c),.bool (fieldB .title s.data.toList)]) w):=by
 obtain ⟨hb,hr,hB⟩:=EBlk.box w e (.slice A m c)
 have hC:∀ W,Calls Tryz.prog 153 #[.string s] W (RetB (.tuple #[.agg #[.int .i64 (titleR s.data.toList).1.1,.string ⟨(titleR s.data.toList).1.2.toArray⟩],.bool (titleR s.data.toList).2]) W):=fun W=>(title_ok s W hs).mono fun _ _ h=>h
 change Calls _ _ _ _ (RetB (.tuple #[evV { e with tSp:=(titleR s.data.toList).1.1,tN:=(titleR s.data.toList).1.2 } (.slice A m c),.bool (titleR s.data.toList).2]) w)
 generalize (titleR s.data.toList).1=t at *
 generalize (titleR s.data.toList).2=ok at *
 obtain ⟨sp,nm⟩:=t
 unfold evV
 unfold ecells at *
 go_enter Tryz.func90,Tryz.ntmps90
 go_upto_region 1 with fail
 have hlt:w.heap.size+1<((w.alloc _).alloc _).heap.size:=hr.lt
 generalize (w.alloc _).alloc _=W0 at *
 go_upto_region 14 with fail
 go_wp2_with (go_at_call 153;refine (hC _).mono ?_)
 rintro e1 W1 ⟨rfl,b1⟩
 have hb1:=hb.below hb.lt b1
 have hr1:=hr.below hlt b1
 have hB1:=hB.trans (b1.mono hB.size)
 have f3:=hb1.fr 3 (by decide)
 have k3:=hb1.c3
 have f4:=hb1.fr 4 (by decide)
 have k4:=hb1.c4
 clear hb hr hB b1 hC
 go_upto_region 17 with fail
 have hb2:=hb1.setTitle sp nm
 have hr2:=(hr1.far (c:=w.heap.size) (i:=3) (x:=.int .i64 sp) (Nat.succ_ne_self _)).far (c:=w.heap.size) (i:=4) (x:=.string ⟨nm.toArray⟩) (Nat.succ_ne_self _)
 have hB2:=(hB1.setCell (p:=⟨w.heap.size,3,none⟩) (Nat.le_refl _) (.int .i64 sp)).setCell (p:=⟨w.heap.size,4,none⟩) (Nat.le_refl _) (.string ⟨nm.toArray⟩)
 generalize (W1.setCell ⟨w.heap.size,3,none⟩ (.int .i64 sp)).setCell ⟨w.heap.size,4,none⟩ (.string ⟨nm.toArray⟩)=W2 at *
 have c0:=hb2.c0
 have c1:=hb2.c1
 have c2:=hb2.c2
 have c3:=hb2.c3
 have c4:=hb2.c4
 have c5:=hb2.c5
 have c6:=hb2.c6
 have c7:=hb2.c7
 have c8:=hb2.c8
 have c9:=hb2.c9
 have c10:=hb2.c10
 have d0:=hr2.c0
 have d1:=hr2.c1
 have d2:=hr2.c2
 have d3:=hr2.c3
 have d4:=hr2.c4
 have d5:=hr2.c5
 have d6:=hr2.c6
 have d7:=hr2.c7
 have d8:=hr2.c8
 have d9:=hr2.c9
 have d10:=hr2.c10
 have g0:=hr2.fr 0 (by decide)
 have g1:=hr2.fr 1 (by decide)
 have g2:=hr2.fr 2 (by decide)
 have g3:=hr2.fr 3 (by decide)
 have g4:=hr2.fr 4 (by decide)
 have g5:=hr2.fr 5 (by decide)
 have g6:=hr2.fr 6 (by decide)
 have g7:=hr2.fr 7 (by decide)
 have g8:=hr2.fr 8 (by decide)
 have g9:=hr2.fr 9 (by decide)
 have g10:=hr2.fr 10 (by decide)
 have hF:=hr2.put { e with tSp:=sp,tN:=nm } (.slice A m c)
 have hFB:=putE_belowB W2 (w.heap.size+1) (Nat.le_succ _) { e with tSp:=sp,tN:=nm } (.slice A m c) hB2
 clear hb1 hr1 hB1 hb2 hr2 hB2 f3 k3 f4 k4
 go_wp2
 unfold putE at hF hFB
 generalize (World.setCell _ _ _:World)=WF at *
 have e0:=hF.c0
 have e1:=hF.c1
 have e2:=hF.c2
 have e3:=hF.c3
 have e4:=hF.c4
 have e5:=hF.c5
 have e6:=hF.c6
 have e7:=hF.c7
 have e8:=hF.c8
 have e9:=hF.c9
 have e10:=hF.c10
 exact bodyPost_ret (v:=.tuple #[evV { e with tSp:=sp,tN:=nm } (.slice A m c),.bool ok]) (by simp [results,Tryz.results90,go_sem,e0,e1,e2,e3,e4,e5,e6,e7,e8,e9,e10,evV,ecells]) rfl ⟨rfl,hFB⟩
set_option maxRecDepth 100000 in
set_option maxHeartbeats 4000000 in
theorem field_to (e:Ev) (A:Option Addr) (m c:Nat) (s:ByteArray) (w:World) (hs:s.size<2147480000):Calls Tryz.prog 90 #[evV e (.slice A m c),.int .u8 111,.string s] w (RetB (.tuple #[evV (fieldE e .to s.data.toList) (.slice A m c),.bool (fieldB .to s.data.toList)]) w):=by
 obtain ⟨hb,hr,hB⟩:=EBlk.box w e (.slice A m c)
 have hC:∀ W,Calls Tryz.prog 153 #[.string s] W (RetB (.tuple #[.agg #[.int .i64 (titleR s.data.toList).1.1,.string ⟨(titleR s.data.toList).1.2.toArray⟩],.bool (titleR s.data.toList).2]) W):=fun W=>(title_ok s W hs).mono fun _ _ h=>h
 change Calls _ _ _ _ (RetB (.tuple #[evV { e with oSp:=(titleR s.data.toList).1.1,oN:=(titleR s.data.toList).1.2 } (.slice A m c),.bool (titleR s.data.toList).2]) w)
 generalize (titleR s.data.toList).1=t at *
 generalize (titleR s.data.toList).2=ok at *
 obtain ⟨sp,nm⟩:=t
 unfold evV
 unfold ecells at *
 go_enter Tryz.func90,Tryz.ntmps90
 go_upto_region 1 with fail
 have hlt:w.heap.size+1<((w.alloc _).alloc _).heap.size:=hr.lt
 generalize (w.alloc _).alloc _=W0 at *
 go_upto_region 16 with fail
 go_wp2_with (go_at_call 153;refine (hC _).mono ?_)
 rintro e1 W1 ⟨rfl,b1⟩
 have hb1:=hb.below hb.lt b1
 have hr1:=hr.below hlt b1
 have hB1:=hB.trans (b1.mono hB.size)
 have f5:=hb1.fr 5 (by decide)
 have k5:=hb1.c5
 have f6:=hb1.fr 6 (by decide)
 have k6:=hb1.c6
 clear hb hr hB b1 hC
 go_upto_region 17 with fail
 have hb2:=hb1.setTo sp nm
 have hr2:=(hr1.far (c:=w.heap.size) (i:=5) (x:=.int .i64 sp) (Nat.succ_ne_self _)).far (c:=w.heap.size) (i:=6) (x:=.string ⟨nm.toArray⟩) (Nat.succ_ne_self _)
 have hB2:=(hB1.setCell (p:=⟨w.heap.size,5,none⟩) (Nat.le_refl _) (.int .i64 sp)).setCell (p:=⟨w.heap.size,6,none⟩) (Nat.le_refl _) (.string ⟨nm.toArray⟩)
 generalize (W1.setCell ⟨w.heap.size,5,none⟩ (.int .i64 sp)).setCell ⟨w.heap.size,6,none⟩ (.string ⟨nm.toArray⟩)=W2 at *
 have c0:=hb2.c0
 have c1:=hb2.c1
 have c2:=hb2.c2
 have c3:=hb2.c3
 have c4:=hb2.c4
 have c5:=hb2.c5
 have c6:=hb2.c6
 have c7:=hb2.c7
 have c8:=hb2.c8
 have c9:=hb2.c9
 have c10:=hb2.c10
 have d0:=hr2.c0
 have d1:=hr2.c1
 have d2:=hr2.c2
 have d3:=hr2.c3
 have d4:=hr2.c4
 have d5:=hr2.c5
 have d6:=hr2.c6
 have d7:=hr2.c7
 have d8:=hr2.c8
 have d9:=hr2.c9
 have d10:=hr2.c10
 have g0:=hr2.fr 0 (by decide)
 have g1:=hr2.fr 1 (by decide)
 have g2:=hr2.fr 2 (by decide)
 have g3:=hr2.fr 3 (by decide)
 have g4:=hr2.fr 4 (by decide)
 have g5:=hr2.fr 5 (by decide)
 have g6:=hr2.fr 6 (by decide)
 have g7:=hr2.fr 7 (by decide)
 have g8:=hr2.fr 8 (by decide)
 have g9:=hr2.fr 9 (by decide)
 have g10:=hr2.fr 10 (by decide)
 have hF:=hr2.put { e with oSp:=sp,oN:=nm } (.slice A m c)
 have hFB:=putE_belowB W2 (w.heap.size+1) (Nat.le_succ _) { e with oSp:=sp,oN:=nm } (.slice A m c) hB2
 clear hb1 hr1 hB1 hb2 hr2 hB2 f5 k5 f6 k6
 go_wp2
 unfold putE at hF hFB
 generalize (World.setCell _ _ _:World)=WF at *
 have e0:=hF.c0
 have e1:=hF.c1
 have e2:=hF.c2
 have e3:=hF.c3
 have e4:=hF.c4
 have e5:=hF.c5
 have e6:=hF.c6
 have e7:=hF.c7
 have e8:=hF.c8
 have e9:=hF.c9
 have e10:=hF.c10
 exact bodyPost_ret (v:=.tuple #[evV { e with oSp:=sp,oN:=nm } (.slice A m c),.bool ok]) (by simp [results,Tryz.results90,go_sem,e0,e1,e2,e3,e4,e5,e6,e7,e8,e9,e10,evV,ecells]) rfl ⟨rfl,hFB⟩
end Go.Proofs
namespace Go.Proofs
open Go.RowKit Go.Sp
theorem textR_readS (w:Bs):(textR w).2=(readS w).2∧((textR w).2=true→(textR w).1=(readS w).1):=by
 have h1:=rd_textR w
 have h2:=rd_readS w
 rw [h1] at h2
 cases h3:(textR w).2 <;> cases h4:(readS w).2 <;> rw [h3,h4] at h2
 ·exact ⟨rfl,fun h=>by cases h⟩
 ·simp at h2
 ·simp at h2
 ·simp at h2
  exact ⟨rfl,fun _=>h2⟩
def RetRv (L:List Bs) (u:Bs) (w:World) (e:Ending) (w':World):Prop:=Below w.heap.size w w' ∧
 (((∃ A m c,e=.returned (.tuple #[.slice A m c,.bool false]))∧(L=[]∨∃ i,i<L.length∧(readS (L.getD i [])).2=false)) ∨
  (∃ hv,e=.returned (.tuple #[hv,.bool true])∧0<L.length∧(∀ i,i<L.length→(readS (L.getD i [])).2=true)∧w'.ownsRow w.heap.size 66 6 hv L.length (hcells (revsTo u L L.length))))
structure RvR (w wr:World) (u:Bs) (L:List Bs) (k:Nat) (v:Value):Prop where
 below:Below w.heap.size w wr
 row:wr.ownsRow w.heap.size 66 6 v k (hcells (revsTo u L k))
 ok:∀ i,i<k→(readS (L.getD i [])).2=true
theorem RvR.push {w W w1:World} {u:Bs} {L:List Bs} {k:Nat} {v v1:Value} {o:Obj} (h:RvR w W u L k v) (hok:(readS (L.getD k [])).2=true) {t:Bs} (ht:t=(readS (L.getD k [])).1) (ho:w1.ownsRow w.heap.size 66 6 v1 (k+1) (hcells (revsTo u L k) ++ [.int .i64 ((k:Int)+1),.string ⟨u.toArray⟩,.string ⟨#[]⟩,.string ⟨t.toArray⟩,.int .i64 0,.int .i64 0])) (hg:(W.alloc o).grownBy w1 v.ownBlock):RvR w w1 u L (k+1) v1:=by
 have hs:=h.below.size
 refine ⟨(h.below.alloc hs _).grown hg (by simp;omega) (fun b hh=>owns_base h.row b hh),?_,fun i hi=>?_⟩
 ·rw [revsTo_succ,hcells_snoc]
  subst ht
  exact ho
 ·by_cases e:i=k
  ·rw [e];exact hok
  ·exact h.ok i (by omega)
set_option maxRecDepth 100000 in
set_option maxHeartbeats 8000000 in
theorem revisionsR_ok (B off cap:Nat) (L:List Bs) (u:ByteArray) (w:World) (hB:B<w.heap.size) (hL:L.length≤4294967296) (hl:∀ j,(L.getD j []).length<2147480000) (hr:RowO w B off L) :
 Calls Tryz.prog 89 #[.string u,.slice (some ⟨B,off,none⟩) L.length cap] w (RetRv L u.data.toList w):=by
 obtain ⟨i0,hi,hz0,hz1,hz2⟩:=info_parts info66
 have hR:∀ k W,Calls Tryz.prog 151 #[.string ⟨(L.getD k []).toArray⟩] W (RetB (.tuple #[.string ⟨(textR (L.getD k [])).1.toArray⟩,.bool (textR (L.getD k [])).2]) W):=fun k W=>(textR_ok ⟨(L.getD k []).toArray⟩ W (hl k)).mono fun _ _ h=>h
 clear hl
 generalize hn:L.length=n at *
 have HN:=Lib.hid hn;clear hn
 go_enter Tryz.func89,Tryz.ntmps89
 go_wp2
 go_loopw [6,7] (fun v i wr=>∃ k:Nat,k≤n∧i=.int .i64 k∧RvR w wr u.data.toList L k v) (fun _ i _=>n - (intOf i).toNat)
 case atStart=>exact ⟨0,Nat.zero_le _,rfl,Below.refl _ _,⟨rfl,.inl ⟨rfl,rfl⟩⟩,fun i h=>by omega⟩
 case round =>
  obtain ⟨k,hk,rfl,hI⟩:=hrel
  by_cases hlt:k<n
  ·have c:=hr.below hB hI.below k (by rw [HN.out];exact hlt)
   have hRk:=hR k
   obtain ⟨h1,h2⟩:=textR_readS (L.getD k [])
   cases hok:(readS (L.getD k [])).2 with
   | false =>
    rw [h1,hok] at hRk
    have HB:=Lib.hid (show ∃ i,i<L.length∧(readS (L.getD i [])).2=false from ⟨k,by rw [HN.out];exact hlt,hok⟩)
    clear h1 h2 hok hR
    generalize (textR (L.getD k [])).1=t at *
    generalize L.getD k []=lk at *
    go_wp2_with (go_at_call 151;refine (hRk _).mono ?_)
    rintro e W1 ⟨rfl,b1⟩
    have hBB:=hI.below.trans (b1.mono hI.below.size)
    clear hI b1 hRk
    go_wp2
    go_ret2
    exact ⟨hBB,.inl ⟨⟨_,_,_,rfl⟩,.inr HB.out⟩⟩
   | true =>
    have ht:=h2 (h1.trans hok)
    rw [h1,hok] at hRk
    have HT:=Lib.hid ht
    have HO:=Lib.hid hok
    clear h1 h2 hok hR ht
    generalize (textR (L.getD k [])).1=t at *
    generalize hlk:L.getD k []=lk at *
    have HLK:=Lib.hid hlk
    clear hlk
    go_wp2_with (go_at_call 151;refine (hRk _).mono ?_)
    rintro e W1 ⟨rfl,b1⟩
    have hI1:RvR w W1 u.data.toList L k u6:=⟨hI.below.trans (b1.mono hI.below.size),owns_below hI.row b1,hI.ok⟩
    clear hI b1 hRk
    have hz:=hI1.below.size
    go_wp2_with (at_builtin;refine wpList_append_own _ rfl _ _ 31 rfl w.heap.size 66 i0 _ 6 72 und31 hi hz0 hz1 hz2 rfl (by decide) _ k (hcells (revsTo u.data.toList L k)) rfl (hI1.row.alloc _) ⟨W1.heap.size,0,none⟩ 1 1 [.int .i64 ((k:Int)+1),.string u,.string ⟨#[]⟩,.string ⟨t.toArray⟩,.int .i64 0,.int .i64 0] rfl rfl (cell_new _ _ _) (fun x hx=>by
     simp only [List.mem_cons,List.not_mem_nil,or_false] at hx
     rcases hx with rfl | rfl | rfl | rfl | rfl | rfl <;> rfl) (by unfold maxLen;omega) (by omega) (by simp;omega) ?_;intro v1 w1 hown1 hgrow1 _hnil)
    have hI2:=hI1.push (by rw [HLK.out];exact HO.out) (by rw [HLK.out];exact HT.out) hown1 hgrow1
    clear hI1 hown1 hgrow1 _hnil
    go_roundw
    case rel=>exact ⟨k+1,by omega,by go_num,hI2⟩
    case measure=>simp [intOf];omega
  ·obtain rfl:k=n:=by omega
   have hb:=hI.below
   by_cases hpos:0<k
   ·have hrow:=hI.row
    have HO:=Lib.hid hI.ok
    clear hI hR
    go_wp2
    go_ret2
    exact ⟨hb,.inr ⟨_,rfl,by rw [HN.out];exact hpos,by rw [HN.out];exact HO.out,by rw [HN.out];exact hrow⟩⟩
   ·obtain rfl:k=0:=by omega
    have HZ:=Lib.hid (show L=[] from List.eq_nil_of_length_eq_zero HN.out)
    obtain ⟨A,m,c,rfl⟩:=owns_slice hI.row
    clear hI hR
    go_wp2
    go_ret2
    exact ⟨hb,.inl ⟨⟨_,_,_,rfl⟩,.inl HZ.out⟩⟩
end Go.Proofs
