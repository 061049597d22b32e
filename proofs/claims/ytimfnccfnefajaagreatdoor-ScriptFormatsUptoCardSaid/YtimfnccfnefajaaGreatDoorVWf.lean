/- A part of the proof: Wo, Wp, Wq -/
import Derived.Test.YtimfnccfnefajaaGreatDoorVWd
import Derived.Test.YtimfnccfnefajaaGreatDoorVWb
import Derived.Lib.AtoiAllCases
import Derived.Test.YtimfnccfnefajaaGreatDoorVWe
set_option linter.unusedSimpArgs false
set_option linter.unusedVariables false
namespace Go.Proofs
open Go.RowKit Go.Sp
theorem fmt_len (sp:Int) (n:Bs):(fmt sp n).length≤n.length+9:=by
 unfold fmt
 split
 ·split
  ·omega
  ·rename_i hv hne
   have hr:=valid_range hv
   rw [List.length_append,List.length_cons]
   have:(nms.getD sp.toNat []).length≤8:=by
    have:sp.toNat=0∨sp.toNat=1∨sp.toNat=2∨sp.toNat=3∨sp.toNat=4∨sp.toNat=5:=by omega
    rcases this with h | h | h | h | h | h <;> rw [h] <;> decide
   omega
 ·exact Nat.zero_le _
end Go.Proofs
namespace Go.Proofs
open Go.RowKit Go.Sp
def IfaceAt (w:World) (g:Nat):Prop:=∃ ev,w.cell? ⟨g,0,none⟩=some ev∧(ev=.nilIface∨∃ te pe,ev=.iface te pe)
structure GlN (w:World):Prop extends Gl w where
 syn:IfaceAt w 7
 rng:IfaceAt w 8
 tab:Lib.TabIs Tryz.prog w "internal/strconv.uint64pow10" .u64 Lib.pow10Tab
theorem pow10_at:Tryz.prog.globalNamed "internal/strconv.uint64pow10"=some 3:=by kernel_rfl
theorem GlN.from {w w':World} (h:GlN w) {B:Nat} (hB:17≤B) (b:Below B w w'):GlN w':=by
 refine ⟨h.toGl.from hB b,?_,?_,?_⟩
 ·obtain ⟨ev,h1,h2⟩:=h.syn
  exact ⟨ev,(b.cell (p:=⟨7,0,none⟩) (by simp;omega)).trans h1,h2⟩
 ·obtain ⟨ev,h1,h2⟩:=h.rng
  exact ⟨ev,(b.cell (p:=⟨8,0,none⟩) (by simp;omega)).trans h1,h2⟩
 ·have ht:=h.tab
  unfold Lib.TabIs World.var? at ht ⊢
  rw [pow10_at] at ht ⊢
  simp only [Option.bind_some] at ht ⊢
  rw [b.block 3 (by omega)]
  exact ht
theorem GlN.below {w w':World} (h:GlN w) (b:Below w.heap.size w w'):GlN w':=h.from h.size b
def numV (w:Bs):Int:=match Lib.atoiAll w with
 | .ok v=>v
 | .range=>Lib.atoiSat w
 | _=>0
theorem itoaL (n:Int) (w:World) (h0 : -9223372036854775808≤n) (h1:n≤9223372036854775807) (hg:GlN w):Calls Tryz.prog 58 #[.int .i64 n] w (RetB (.string ⟨(Lib.itoa n).toArray⟩) w):=by
 refine (Tryz.strconv_Itoa n h0 h1 w hg.tab).mono fun e w' he=>?_
 obtain ⟨h1,k,os,rfl⟩:=he
 exact ⟨h1,rfl,rfl,rfl,by show w.heap.size≤(w.heap ++ os).size;rw [Array.size_append];omega,fun j hj=>by show (w.heap ++ os)[j]? = _;rw [Array.getElem?_append_left hj]⟩
theorem below_bytesW (w:World) (t:ByteArray):Below w.heap.size w (Lib.bytesWorld w 5 t):=below_bytes w t
theorem below_or {w w':World} (h:w'=w∨∃ t,w'=Lib.bytesWorld w 5 t):Below w.heap.size w w':=by
 rcases h with rfl | ⟨t,rfl⟩
 ·exact Below.refl _ _
 ·exact below_bytesW w t
theorem atoiOk (s:ByteArray) (w:World) (hs:s.size≤35184372088832) {v:Int} (h:Lib.atoiAll s.data.toList=.ok v):Calls Tryz.prog 160 #[.string s] w (RetB (.tuple #[.int .i64 v,.nilIface]) w) :=
 (Tryz.strconv_Atoi_ok s (by omega) v h w).mono fun _ _ he=>⟨he.1,below_or he.2⟩
def RetBad (v:Int) (w:World) (e:Ending) (w':World):Prop:=(∃ N,e=.returned (.tuple #[.int .i64 v,.iface 557 (.pointer (some ⟨N,0,none⟩))]))∧Below w.heap.size w w'
theorem atoiBad (s:ByteArray) (w:World) (hs:s.size≤35184372088832) (hg:GlN w) (h:∀ v,Lib.atoiAll s.data.toList≠.ok v):Calls Tryz.prog 160 #[.string s] w (RetBad (numV s.data.toList) w):=by
 unfold numV
 cases hq:Lib.atoiAll s.data.toList with
 | ok v=>exact absurd hq (h v)
 | range =>
  obtain ⟨ev,h1,h2⟩:=hg.rng
  exact (Tryz.strconv_Atoi_range s (by omega) hq ev w h1 h2).mono fun _ _ ⟨N,he,_,_,hb⟩=>⟨⟨N,he⟩,hb⟩
 | _ =>
  obtain ⟨ev,h1,h2⟩:=hg.syn
  exact (Tryz.strconv_Atoi_syntax s (by omega) hq ev w h1 h2).mono fun _ _ ⟨N,he,_,_,hb⟩=>⟨⟨N,he⟩,hb⟩
set_option maxRecDepth 100000 in
set_option maxHeartbeats 4000000 in
theorem readNumber_ok (s:ByteArray) (w:World) (hs:s.size≤35184372088832) (hg:GlN w):Calls Tryz.prog 98 #[.string s] w (RetB (.tuple #[.int .i64 (numV s.data.toList),.bool (numP s.data.toList).isSome]) w):=by
 by_cases hok:∃ v,Lib.atoiAll s.data.toList=.ok v
 ·obtain ⟨v,hv⟩:=hok
  have hbd:=Lib.atoiAll_bounds hv
  have hA:=fun W=>atoiOk s W hs hv
  have hn:numV s.data.toList=v:=by unfold numV;rw [hv]
  have hp:numP s.data.toList=if (mag s.data.toList).length≤9∧Lib.itoa v=s.data.toList then some v else none:=by unfold numP;rw [hv]
  have HN:=Lib.hid hn
  have HP:=Lib.hid hp
  obtain ⟨hb0,hb1⟩:=hbd
  clear hn hp hv
  have hT:=fun W=>retB_same (Tryz.strings_TrimPrefix s ⟨#[45]⟩ W)
  have e0:Lib.trimPrefix s.data.toList (⟨#[45]⟩:ByteArray).data.toList=mag s.data.toList:=rfl
  rw [e0] at hT
  clear e0
  go_enter Tryz.func98,Tryz.ntmps98
  go_wp2_with (go_at_call 160;refine (hA _).mono ?_)
  rintro e W1 ⟨rfl,b1⟩
  have hg1:=hg.below b1
  go_wp2_with (go_at_call 161;refine (hT _).mono ?_)
  rintro e W2 ⟨rfl,b2⟩
  have hg2:=hg1.below b2
  go_wp2_with (go_at_call 58;refine (itoaL v _ hb0 hb1 hg2).mono ?_)
  ·rintro e W3 ⟨rfl,b3⟩
   have h9:(mag s.data.toList).length≤9:=by omega
   go_wp2
   go_ret2
   refine ⟨?_,(b1.trans (b2.mono b1.size)).trans (b3.mono (Nat.le_trans b1.size b2.size))⟩
   have eb:(numP s.data.toList).isSome=(Lib.itoa v == s.toList):=by
    rw [HP.out,ByteArray.toList_eq]
    by_cases hi:Lib.itoa v=s.data.toList
    ·rw [if_pos ⟨h9,hi⟩,hi];simp
    ·rw [if_neg (fun h=>hi h.2)];simp [hi]
   rw [HN.out,eb]
   rfl
  ·have h9:¬ (mag s.data.toList).length≤9:=by omega
   go_ret2
   refine ⟨?_,b1.trans (b2.mono b1.size)⟩
   rw [HN.out,HP.out,if_neg (fun h=>h9 h.1)]
   rfl
 ·have hno:∀ v,Lib.atoiAll s.data.toList≠.ok v:=fun v h=>hok ⟨v,h⟩
  have hA:=fun W hg=>atoiBad s W hs hg hno
  have hp:numP s.data.toList=none:=by
   unfold numP
   cases hq:Lib.atoiAll s.data.toList with
   | ok v=>exact absurd hq (hno v)
   | _=>rfl
  have HP:=Lib.hid hp
  clear hp hno hok
  generalize numV s.data.toList=v at *
  go_enter Tryz.func98,Tryz.ntmps98
  go_wp2_with (go_at_call 160;refine (hA _ hg).mono ?_)
  rintro e W1 ⟨⟨N,rfl⟩,b1⟩
  go_wp2
  go_ret2
  exact ⟨by rw [HP.out];rfl,b1⟩
end Go.Proofs
namespace Go.Proofs
open Go.RowKit Go.Sp
def titR (w:Bs):Int×Int×Bs:=parseP (readS w).1
def titOk (w:Bs):Bool:=(readS w).2 && decide ((titR w).1=0) && decide (fmt (titR w).2.1 (titR w).2.2=(readS w).1)
theorem dec_len:∀ (n:Nat) (s b:Bs),s.length≤n→dec (some [126]) s=some b→b.length≤s.length
 | _,[],b,_,h=>by obtain rfl:=Option.some.inj (show some []=some b from h);exact Nat.le_refl _
 | 0,_ :: _,_,hn,_=>by cases hn
 | n+1,c :: r,b,hn,h=>by
  simp only [List.length_cons] at hn
  by_cases hc:c=126
  ·subst hc
   cases r with
   | nil=>obtain rfl:=Option.some.inj (show some [126]=some b from h);exact Nat.le_refl _
   | cons x r =>
    rw [dec_tilde] at h
    obtain ⟨y,_,h⟩:=Option.bind_eq_some_iff.1 h
    obtain ⟨b2,h2,rfl⟩:=Option.map_eq_some_iff.1 h
    simp only [List.length_cons] at hn
    have:=dec_len n r b2 (by omega) h2
    simp only [List.length_cons];omega
  ·rw [dec_plain _ hc] at h
   obtain ⟨b2,h2,rfl⟩:=Option.map_eq_some_iff.1 h
   have:=dec_len n r b2 (by omega) h2
   simp only [List.length_cons];omega
theorem readS_len (w:Bs):(readS w).1.length≤w.length:=by
 unfold readS
 split
 ·exact Nat.zero_le _
 ·split
  ·rename_i h;rw [h];decide
  ·split
   ·exact Nat.zero_le _
   ·rename_i b h
    exact dec_len _ w b (Nat.le_refl _) h
theorem TBlk.drew {W:World} {B:Nat} {sp:Int} {n:Bs} (h:TBlk W B sp n):TBlk W.drew B sp n:=⟨h.c0,h.c1,h.f0,h.f1,h.lt⟩
theorem P2.drew {w W:World} {T:Nat} {sp:Int} {n:Bs} (h:P2 w W T sp n):P2 w W.drew T sp n:=⟨h.1.drew,h.2.1.drew,h.2.2.1.drew,h.2.2.2⟩
abbrev HeldT (w w':World) (T:Nat) (sp:Int) (nm:Bs):Prop:=w'.cell? ⟨T,0,none⟩=some (.int .i64 sp)∧w'.cell? ⟨T,1,none⟩=some (.string ⟨nm.toArray⟩)∧w'.cell? ⟨w.heap.size,0,none⟩=some (.int .i64 0)∧w'.cell? ⟨w.heap.size,1,none⟩=some (.string ⟨#[]⟩)∧w'.frozen? ⟨w.heap.size,0,none⟩=false∧w'.frozen? ⟨w.heap.size,1,none⟩=false∧P2 w w' T sp nm
theorem HeldT.of {w w':World} {T:Nat} {sp:Int} {nm:Bs} (h:P2 w w' T sp nm):HeldT w w' T sp nm:=⟨h.2.2.1.c0,h.2.2.1.c1,h.2.1.c0,h.2.1.c1,h.2.1.f0,h.2.1.f1,h⟩
theorem HeldT.p2 {w w':World} {T:Nat} {sp:Int} {nm:Bs} (h:HeldT w w' T sp nm):P2 w w' T sp nm:=h.2.2.2.2.2.2
set_option maxRecDepth 100000 in
set_option maxHeartbeats 4000000 in
theorem readTitle_ok (s:ByteArray) (w:World) (hs:s.size<4294960000) (hg:Gl w):Calls Tryz.prog 97 #[.string s] w (RetB (.tuple #[.agg #[.int .i64 (titR s.data.toList).2.1,.string ⟨(titR s.data.toList).2.2.toArray⟩],.bool (titOk s.data.toList)]) w):=by
 have hp0:P1 w (w.alloc (.cells #[.int .i64 0,.string ⟨#[]⟩] 30)):=⟨(Below.refl _ w).alloc (Nat.le_refl _) _,TBlk.new w⟩
 have hR0:∀ W,Calls Tryz.prog 96 #[.string s] W (RetB (.tuple #[.string ⟨(readS s.data.toList).1.toArray⟩,.bool (readS s.data.toList).2]) W):=fun W=>(read_ok s W (by omega)).mono fun _ _ h=>h
 have hrl:=readS_len s.data.toList
 rw [← size_len] at hrl
 have hT:∀ W,Gl W→Calls Tryz.prog 159 #[.string ⟨(readS s.data.toList).1.toArray⟩] W (RetB (parseV (titR s.data.toList)) W):=fun W hg=>tparse_ok ⟨(readS s.data.toList).1.toArray⟩ W (by show (readS s.data.toList).1.length<_;omega) hg
 unfold parseV at hT
 have hok:titOk s.data.toList=((readS s.data.toList).2 && decide ((titR s.data.toList).1=0) && decide (fmt (titR s.data.toList).2.1 (titR s.data.toList).2.2=(readS s.data.toList).1)):=rfl
 rw [hok]
 clear hok
 have hR:(titR s.data.toList).1=0→valid (titR s.data.toList).2.1 (titR s.data.toList).2.2=true:=fun h=>reads_prog.ok (s:=(readS s.data.toList).1) (sp:=(titR s.data.toList).2.1) (m:=(titR s.data.toList).2.2) (by rw [← h];rfl)
 generalize titR s.data.toList=r at *
 generalize (readS s.data.toList).1=t at *
 generalize (readS s.data.toList).2=ok at *
 obtain ⟨er,sp,nm⟩:=r
 go_enter Tryz.func97,Tryz.ntmps97
 go_wp2_with (go_at_call 96;refine (hR0 _).mono ?_)
 rintro e W1 ⟨rfl,b1⟩
 have hp1:=hp0.step b1
 clear hp0 b1
 go_wp2_with (go_at_call 159;refine (hT _ (hg.below hp1.1)).mono ?_)
 rintro e W2 ⟨rfl,b2⟩
 have hp2:=hp1.step b2
 clear hp1 b2 hT hR0
 go_upto_region 3 with fail
 have hp3:P2 w (W2.alloc (.cells #[.int .i64 sp,.string ⟨nm.toArray⟩] 30)) W2.heap.size sp nm:=by
  have hb:=(Below.refl W2.heap.size W2).alloc (Nat.le_refl _) (.cells #[.int .i64 sp,.string ⟨nm.toArray⟩] 30)
  refine ⟨hp2.1.trans (hb.mono hp2.1.size),hp2.2.below hb,?_,hp2.2.lt⟩
  constructor <;> simp [World.cell?,World.frozen?,World.alloc,-World.alloc_eq]
 have hT:=hp2.2.lt
 generalize W2.alloc (.cells #[.int .i64 sp,.string ⟨nm.toArray⟩] 30)=W3 at *
 generalize W2.heap.size=T at *
 clear hp2
 have d0:=hp3.2.1.c0
 have d1:=hp3.2.1.c1
 have g0:=hp3.2.1.f0
 have g1:=hp3.2.1.f1
 have k0:=hp3.2.2.1.c0
 have k1:=hp3.2.2.1.c1
 cases ok with
 | false =>
  clear hrl hg hs hR
  simp only [Bool.false_and]
  go_region
  go_wp2
  have hF:=((hp3.2.1.set0 sp).set1 nm).c0
  have hF1:=((hp3.2.1.set0 sp).set1 nm).c1
  have hFB:=(((hp3.1.setCell (p:=⟨w.heap.size,0,none⟩) (Nat.le_refl _) (.int .i64 sp)).setCell (p:=⟨w.heap.size,1,none⟩) (Nat.le_refl _) (.string ⟨nm.toArray⟩)).drew)
  exact bodyPost_ret (v:=.tuple #[.agg #[.int .i64 sp,.string ⟨nm.toArray⟩],.bool false]) (by simp [results,Tryz.results97,go_sem,hF,hF1]) rfl ⟨rfl,hFB⟩
 | true =>
  by_cases he:er=0
  ·subst he
   have hv:=hR rfl
   have hlen:=(valid_parts hv).2.2.2.1
   have hF:=fun W hg=>tformat_ok sp ⟨nm.toArray⟩ W (by show nm.length<_;omega) hg
   have hH:=fun w' (h:P2 w w' T sp nm)=>(hF w' (hg.below h.1)).mono fun _ _ he=>(⟨he.1,HeldT.of (h.step he.2)⟩:_∧HeldT w _ T sp nm)
   have hb:decide (fmt sp nm=t)=(fmt sp nm == t):=by simp [Bool.beq_eq_decide_eq]
   simp only [Bool.true_and,decide_true]
   have HB:=Lib.hid hb
   clear hv hlen hR hF hs hrl hb
   generalize fmt sp nm=q at *
   clear hg hT
   go_region_with (go_at_call 91;refine (hH _ hp3.drew).mono ?_;rintro e w' ⟨rfl,m0,m1,m2,m3,m4,m5,k⟩)
   all_goals
    go_wp2
    have hF:=((k.2.1.set0 sp).set1 nm).c0
    have hF1:=((k.2.1.set0 sp).set1 nm).c1
    have hFB:=((k.1.setCell (p:=⟨w.heap.size,0,none⟩) (Nat.le_refl _) (.int .i64 sp)).setCell (p:=⟨w.heap.size,1,none⟩) (Nat.le_refl _) (.string ⟨nm.toArray⟩))
    exact bodyPost_ret (v:=.tuple #[.agg #[.int .i64 sp,.string ⟨nm.toArray⟩],.bool (q == t)]) (by simp [results,Tryz.results97,go_sem,hF,hF1]) rfl ⟨by rw [← HB.out];rfl,hFB⟩
  ·have f1:(er == 0)=false:=by simp [he]
   have f2:(true && decide (er=0) && decide (fmt sp nm=t))=false:=by simp [he]
   have HE:=Lib.hid f2
   clear hrl hg hs hR f2 he
   go_region
   go_wp2
   have hF:=((hp3.2.1.set0 sp).set1 nm).c0
   have hF1:=((hp3.2.1.set0 sp).set1 nm).c1
   have hFB:=(((hp3.1.setCell (p:=⟨w.heap.size,0,none⟩) (Nat.le_refl _) (.int .i64 sp)).setCell (p:=⟨w.heap.size,1,none⟩) (Nat.le_refl _) (.string ⟨nm.toArray⟩)).drew)
   exact bodyPost_ret (v:=.tuple #[.agg #[.int .i64 sp,.string ⟨nm.toArray⟩],.bool false]) (by simp [results,Tryz.results97,go_sem,hF,hF1]) rfl ⟨by rw [HE.out],hFB⟩
end Go.Proofs
