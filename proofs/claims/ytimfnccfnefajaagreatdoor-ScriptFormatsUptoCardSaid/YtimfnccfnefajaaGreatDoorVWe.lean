/- A part of the proof: Wl -/
import Derived.Test.YtimfnccfnefajaaGreatDoorVWd
import Derived.Deep.DeepCutAuto
import Derived.Lib.Bytes2
import Derived.Lib.IndexBytes
set_option linter.unusedSimpArgs false
set_option linter.unusedVariables false
namespace Go.Proofs
open Go.RowKit Go.Sp
theorem singleL (l:Bs) (w:World) (h:l.length≤35184372088832):Calls Tryz.prog 275 #[.string ⟨l.toArray⟩] w (RetB (.string ⟨(single l).toArray⟩) w):=single_ok ⟨l.toArray⟩ w h
theorem prefixL (l:Bs) (w:World) (h:l.length<4294967281) (hg:Gl w):Calls Tryz.prog 218 #[.string ⟨l.toArray⟩] w (RetB (preV l) w):=prefix_ok ⟨l.toArray⟩ w h hg
theorem slashesL (l:Bs) (w:World) (h:l.length<4294967281) (hg:Gl w):Calls Tryz.prog 278 #[.string ⟨l.toArray⟩] w (RetB (.string ⟨(slashes l).toArray⟩) w):=slashes_ok ⟨l.toArray⟩ w h hg
theorem hasPrefixL (l:Bs) (w:World):Calls Tryz.prog 277 #[.string ⟨l.toArray⟩,.string ⟨#[58]⟩] w (RetB (.bool (Lib.hasPrefix l [58])) w):=retB_same (Tryz.strings_HasPrefix ⟨l.toArray⟩ ⟨#[58]⟩ w)
theorem replaceL (s:ByteArray) (w:World) (h:s.size<4294967281) (hg:Gl w):Calls Tryz.prog 276 #[.string s,.string ⟨#[95]⟩,.string ⟨#[32]⟩] w (RetB (.string ⟨(Lib.replaceAll s.data.toList [95] [32]).toArray⟩) w):=by
 obtain ⟨m,hm⟩:=hg.max
 have hc:=Lib.countB_le ⟨#[95]⟩ (Nat.le_refl _) s.size s (Nat.le_refl _)
 exact Tryz.strings_ReplaceAll s ⟨#[95]⟩ ⟨#[32]⟩ m w h hm (Nat.le_refl _) (by show s.size+Lib.countB s ⟨#[95]⟩ * 1≤_;omega)
theorem sing_len:∀ (r acc:Bs),(sing acc r).length≤acc.length+r.length
 | [],acc=>Nat.le_refl _
 | c :: r,acc=>by
  rw [sing_step]
  split
  ·have:=sing_len r (acc ++ [c])
   simp only [List.length_append,List.length_cons,List.length_nil] at this ⊢
   omega
  ·have:=sing_len r acc
   simp only [List.length_cons]
   omega
theorem single_len (s:Bs):(single s).length≤s.length:=by
 have h1:=trimSuffix_len (sing [] s) [32]
 have h2:=sing_len s []
 simp only [List.length_nil,Nat.zero_add] at h2
 exact Nat.le_trans h1 h2
theorem slashes_len (s:Bs):(slashes s).length≤s.length+1:=by
 have h1:=join_len 47 ((splitL 47 s).mapIdx (slash1 (splitL 47 s).length))
 have h2:=lens_mapIdx (slash1 (splitL 47 s).length) (fun i p=>slash1_len _ i p) (splitL 47 s)
 have h3:=splitL_lens 47 s
 rw [List.length_mapIdx] at h1
 unfold slashes
 omega
theorem trimPrefix_len (l p:Bs):(Lib.trimPrefix l p).length≤l.length:=by
 unfold Lib.trimPrefix
 split
 ·rw [List.length_drop];omega
 ·exact Nat.le_refl _
def parseV (r:Int×Int×Bs):Value:=.tuple #[.agg #[.int .i64 r.2.1,.string ⟨r.2.2.toArray⟩],.int .i64 r.1]
theorem colon_len (s:Bs):(colon s).length≤s.length:=by
 unfold colon
 split
 ·refine Nat.le_trans (trimPrefix_len _ _) ?_
  rw [List.length_drop];omega
 ·exact Nat.le_refl _
structure TBlk (W:World) (B:Nat) (sp:Int) (n:Bs):Prop where
 c0:W.cell? ⟨B,0,none⟩=some (.int .i64 sp)
 c1:W.cell? ⟨B,1,none⟩=some (.string ⟨n.toArray⟩)
 f0:W.frozen? ⟨B,0,none⟩=false
 f1:W.frozen? ⟨B,1,none⟩=false
 lt:B<W.heap.size
theorem TBlk.below {W W':World} {B:Nat} {sp:Int} {n:Bs} (h:TBlk W B sp n) (b:Below W.heap.size W W'):TBlk W' B sp n :=
 ⟨(b.cell (p:=⟨B,0,none⟩) h.lt).trans h.c0,(b.cell (p:=⟨B,1,none⟩) h.lt).trans h.c1,(b.frozen (p:=⟨B,0,none⟩) h.lt).trans h.f0,(b.frozen (p:=⟨B,1,none⟩) h.lt).trans h.f1,Nat.lt_of_lt_of_le h.lt b.size⟩
theorem TBlk.new (W:World):TBlk (W.alloc (.cells #[.int .i64 0,.string ⟨#[]⟩] 30)) W.heap.size 0 []:=by
 constructor <;> simp [World.cell?,World.frozen?,World.alloc,-World.alloc_eq]
theorem pre_val (s:Bs):∃ (i:Nat) (r:Bs) (b:Bool),preV s=.tuple #[.int .i64 (i:Int),.string ⟨r.toArray⟩,.bool b]∧(b=true→pre s=some (i,r))∧(b=false→pre s=none):=by
 unfold preV
 cases h:pre s with
 | none=>exact ⟨0,[],false,rfl,fun h=>(by cases h),fun _=>rfl⟩
 | some p=>exact ⟨p.1,p.2,true,rfl,fun _=>rfl,fun h=>(by cases h)⟩
theorem pre_len {s:Bs} {i:Nat} {r:Bs} (h:pre s=some (i,r)):r.length≤s.length:=by
 unfold pre at h
 split at h
 ·rename_i hx
  obtain ⟨j,_,e⟩:=Option.map_eq_some_iff.1 h
  obtain ⟨_,rfl⟩:=Prod.mk.inj e
  unfold Lib.cut
  rw [if_pos hx]
  simp only [List.length_drop]
  omega
 ·cases h
theorem TBlk.set0 {W:World} {B:Nat} {sp:Int} {n:Bs} (h:TBlk W B sp n) (v:Int):TBlk (W.setCell ⟨B,0,none⟩ (.int .i64 v)) B v n :=
 ⟨World.cell?_setCell_same _ _ _ h.c0,by rw [World.cell?_setCell_other _ ⟨B,0,none⟩ ⟨B,1,none⟩ _ (by simp)];exact h.c1,by rw [World.frozen?_setCell];exact h.f0,by rw [World.frozen?_setCell];exact h.f1,by simpa using h.lt⟩
theorem TBlk.set1 {W:World} {B:Nat} {sp:Int} {n:Bs} (h:TBlk W B sp n) (m:Bs):TBlk (W.setCell ⟨B,1,none⟩ (.string ⟨m.toArray⟩)) B sp m :=
 ⟨by rw [World.cell?_setCell_other _ ⟨B,1,none⟩ ⟨B,0,none⟩ _ (by simp)];exact h.c0,World.cell?_setCell_same _ _ _ h.c1,by rw [World.frozen?_setCell];exact h.f0,by rw [World.frozen?_setCell];exact h.f1,by simpa using h.lt⟩
theorem TBlk.far {W:World} {B C o:Nat} {sp:Int} {n:Bs} {v:Value} (h:TBlk W B sp n) (hne:C≠B):TBlk (W.setCell ⟨C,o,none⟩ v) B sp n :=
 ⟨by rw [World.cell?_setCell_other _ ⟨C,o,none⟩ ⟨B,0,none⟩ _ (by simp [hne])];exact h.c0,by rw [World.cell?_setCell_other _ ⟨C,o,none⟩ ⟨B,1,none⟩ _ (by simp [hne])];exact h.c1,by rw [World.frozen?_setCell];exact h.f0,by rw [World.frozen?_setCell];exact h.f1,by simpa using h.lt⟩
def P1 (w W:World):Prop:=Below w.heap.size w W∧TBlk W w.heap.size 0 []
theorem P1.step {w W W':World} (h:P1 w W) (b:Below W.heap.size W W'):P1 w W':=⟨h.1.trans (b.mono h.1.size),h.2.below b⟩
def P2 (w W:World) (T:Nat) (sp:Int) (n:Bs):Prop:=Below w.heap.size w W∧TBlk W w.heap.size 0 []∧TBlk W T sp n∧w.heap.size<T
theorem P2.step {w W W':World} {T:Nat} {sp:Int} {n:Bs} (h:P2 w W T sp n) (b:Below W.heap.size W W'):P2 w W' T sp n:=⟨h.1.trans (b.mono h.1.size),h.2.1.below b,h.2.2.1.below b,h.2.2.2⟩
theorem P2.set0 {w W:World} {T:Nat} {sp:Int} {n:Bs} (h:P2 w W T sp n) (v:Int):P2 w (W.setCell ⟨T,0,none⟩ (.int .i64 v)) T v n :=
 ⟨h.1.setCell (p:=⟨T,0,none⟩) (Nat.le_of_lt h.2.2.2) _,h.2.1.far (by have:=h.2.2.2;omega),h.2.2.1.set0 v,h.2.2.2⟩
theorem P2.set1 {w W:World} {T:Nat} {sp:Int} {n:Bs} (h:P2 w W T sp n) (m:Bs):P2 w (W.setCell ⟨T,1,none⟩ (.string ⟨m.toArray⟩)) T sp m :=
 ⟨h.1.setCell (p:=⟨T,1,none⟩) (Nat.le_of_lt h.2.2.2) _,h.2.1.far (by have:=h.2.2.2;omega),h.2.2.1.set1 m,h.2.2.2⟩
theorem bytes_back (x:ByteArray):(⟨x.data.toList.toArray⟩:ByteArray)=x:=bytes_ext rfl
theorem P2.set1x {w W:World} {T:Nat} {sp:Int} {n:Bs} (h:P2 w W T sp n) (x:ByteArray):P2 w (W.setCell ⟨T,1,none⟩ (.string x)) T sp x.data.toList:=by
 have:=h.set1 x.data.toList
 rwa [bytes_back] at this
theorem nonempty_b {x:ByteArray} (h0:0<x.size):x.toList.isEmpty=false:=by
 rw [ByteArray.toList_eq]
 cases hq:x.data.toList with
 | nil=>rw [size_len,hq] at h0;cases h0
 | cons a l=>rfl
theorem le_num (c:UInt8):(97≤c∧c≤122)↔(97≤(c.toNat:Int)∧(c.toNat:Int)≤122):=by
 rw [UInt8.le_iff_toNat_le,UInt8.le_iff_toNat_le]
 show (97≤c.toNat∧c.toNat≤122)↔_
 omega
theorem upHead_no {x:ByteArray} (h0:0<x.size) (h:¬ (97≤(x[0].toNat:Int)∧(x[0].toNat:Int)≤122)):upHead x.data.toList=x.data.toList:=by
 have e:=drop_one x 0 h0
 rw [List.drop_zero] at e
 rw [e]
 exact if_neg (fun hh=>h ((le_num _).1 hh))
theorem upHead_yes {x:ByteArray} (h0:0<x.size) (h:97≤(x[0].toNat:Int)∧(x[0].toNat:Int)≤122):upHead x.data.toList=(x[0] - 32) :: x.data.toList.drop 1:=by
 have e:=drop_one x 0 h0
 rw [List.drop_zero] at e
 have e2:upHead (x[0] :: x.data.toList.drop (0+1))=(x[0] - 32) :: x.data.toList.drop (0+1):=if_pos ((le_num _).2 h)
 rw [← e] at e2
 exact e2
theorem rest_len (s:Bs):(rest s).2.length≤s.length:=by
 unfold rest
 cases h:pre s with
 | none=>exact Nat.le_refl _
 | some p=>exact Nat.le_trans (trimPrefix_len _ _) (pre_len h)
set_option maxRecDepth 100000 in
set_option maxHeartbeats 8000000 in
theorem tparse_ok (s:ByteArray) (w:World) (hs:s.size<4294960000) (hg:Gl w):Calls Tryz.prog 159 #[.string s] w (RetB (parseV (parseP s.data.toList)) w):=by
 have hp0:P1 w (w.alloc (.cells #[.int .i64 0,.string ⟨#[]⟩] 30)):=⟨(Below.refl _ w).alloc (Nat.le_refl _) _,TBlk.new w⟩
 have HR:=replaceL s _ (by omega) (hg.below hp0.1)
 have hrl:=replace_len s.data.toList
 rw [← size_len] at hrl
 have hpe:parseP s.data.toList=ends (rest (colon (single (Lib.replaceAll s.data.toList [95] [32])))).1 (upHead (slashes (rest (colon (single (Lib.replaceAll s.data.toList [95] [32])))).2)):=rfl
 have HP:=Lib.hid hpe;clear hpe
 generalize Lib.replaceAll s.data.toList [95] [32]=r0 at *
 go_enter Tryz.func159,Tryz.ntmps159
 go_wp2_with (go_at_call 276;refine HR.mono ?_)
 rintro e W1 ⟨rfl,b1⟩
 have hp1:=hp0.step b1
 clear HR b1 hp0
 have hsl:=single_len r0
 go_wp2_with (go_at_call 275;refine (singleL r0 _ (by omega)).mono ?_)
 rintro e W2 ⟨rfl,b2⟩
 have hp2:=hp1.step b2
 clear b2 hp1
 generalize single r0=s0 at *
 go_upto_if 12 with (go_at_call 277;refine (hasPrefixL s0 _).mono ?_;rintro e W3 ⟨rfl,b3⟩)
 have hp3:=hp2.step b3
 clear hp2 b3
 go_cut [0] (fun v W=>v=.string ⟨(colon s0).toArray⟩∧P1 w W)
 case first =>
  cases hpx:Lib.hasPrefix s0 [58] with
  | false =>
   have hcol:colon s0=s0:=by unfold colon;rw [hpx];rfl
   have HC:=Lib.hid hcol;clear hcol hpx
   go_wp2
   go_meet
   exact ⟨by rw [HC.out],hp3⟩
  | true =>
   have hcol:colon s0=Lib.trimPrefix (s0.drop 1) [32]:=by unfold colon;rw [hpx];rfl
   have hle:1≤(⟨s0.toArray⟩:ByteArray).size:=Lib.hasPrefix_le hpx
   have HC:=Lib.hid hcol;clear hcol hpx
   go_wp2_with (go_at_call 161;refine (retB_same (Tryz.strings_TrimPrefix _ ⟨#[32]⟩ _)).mono ?_)
   rintro e W4 ⟨rfl,b4⟩
   go_wp2
   go_meet
   have ht:List.take (List.length s0 - 1) (List.tail s0)=s0.drop 1:=by rw [List.drop_one,List.take_of_length_le (by simp)]
   exact ⟨by rw [ht,HC.out],hp3.step b4⟩
 case rest =>
  obtain ⟨rfl,hp4⟩:=hcut
  clear hp3
  have hcl:=colon_len s0
  generalize colon s0=s1 at *
  have hT:P2 w (wc.alloc (.cells #[.int .i64 0,.string ⟨#[]⟩] 30)) wc.heap.size 0 []:=⟨hp4.1.alloc hp4.1.size _,hp4.2.below ((Below.refl _ wc).alloc (Nat.le_refl _) _),TBlk.new wc,hp4.2.lt⟩
  obtain ⟨i,r,b,hpv,hpt,hpf⟩:=pre_val s1
  have hPL:=prefixL s1 _ (by omega) (hg.below hT.1)
  rw [hpv] at hPL
  clear hpv
  have HPT:=Lib.hid hpt
  have HPF:=Lib.hid hpf
  clear hpt hpf
  go_upto_if 23 with (go_at_call 218;refine hPL.mono ?_;rintro e W5 ⟨rfl,b5⟩)
  have hT5:=hT.step b5
  clear hPL hT b5 hp4
  generalize wc.heap.size=T at *
  go_cut [0] (fun v W=>v=.string ⟨(rest s1).2.toArray⟩∧P2 w W T ((rest s1).1:Int) [])
  case first =>
   cases b with
   | false =>
    have hr:rest s1=(0,s1):=by unfold rest;rw [HPF.out rfl]
    have HR:=Lib.hid hr;clear hr
    go_wp2
    go_meet
    exact ⟨by rw [HR.out],by rw [HR.out];exact hT5⟩
   | true =>
    have hr:rest s1=(i,Lib.trimPrefix r [32]):=by unfold rest;rw [HPT.out rfl]
    have HR:=Lib.hid hr;clear hr
    have c0:=hT5.2.2.1.c0
    have f0:=hT5.2.2.1.f0
    go_wp2_with (go_at_call 161;refine (trimPrefixL _ _ _).mono ?_)
    rintro e W6 ⟨rfl,b6⟩
    have hT6:=hT5.step b6
    have c1:=hT6.2.2.1.c0
    have f1:=hT6.2.2.1.f0
    go_wp2
    go_meet
    exact ⟨by rw [HR.out],by rw [HR.out];exact hT6.set0 _⟩
  case rest =>
   obtain ⟨rfl,hT6⟩:=hcut
   clear hT5 HPT HPF
   have hrl2:=rest_len s1
   generalize (rest s1).2=s2 at *
   generalize ((rest s1).1:Int)=sp at *
   have hsl2:=slashes_len s2
   go_wp2_with (go_at_call 278;refine (slashesL s2 _ (by omega) (hg.below hT6.1)).mono ?_)
   rintro e W7 ⟨rfl,b7⟩
   have hT7:=hT6.step b7
   clear hT6 b7
   generalize slashes s2=s3 at *
   generalize hx:(⟨s3.toArray⟩:ByteArray)=x
   have hxd:x.data.toList=s3:=by rw [← hx]
   subst hxd
   clear hx
   have hxs:=size_len x
   rw [← hxs] at hsl2
   by_cases h0:0<x.size
   ·by_cases hlow:97≤(x[0].toNat:Int)∧(x[0].toNat:Int)≤122
    ·have hu:=upHead_yes h0 hlow
     have he:x.toList.isEmpty=false:=nonempty_b h0
     have HU:=Lib.hid hu;clear hu hxs
     obtain ⟨h97,h122⟩:=hlow
     have hsub:((x[0] - 32).toNat:Int)=(x[0].toNat:Int) - 32:=by
      rw [UInt8.toNat_sub_of_le _ _ (UInt8.le_iff_toNat_le.2 (by show 32≤x[0].toNat;omega))]
      show ((x[0].toNat - 32:Nat):Int)=_
      omega
     have hback:=run_convert_bytes_back (P:=Tryz.prog) (W7.alloc (.cells #[.int .u8 ((x[0].toNat:Int) - 32)] 5)).drew 91 9 5 ⟨W7.heap.size,0,none⟩ 1 [x[0] - 32] Tryz.underlying91 Tryz.underlying5 Tryz.underlying9 (fun j hj=>by
      obtain rfl:j=0:=by simp at hj;omega
      rw [show ([x[0] - 32]:Bs)[0]=x[0] - 32 from rfl,hsub]
      simp [World.cell?,World.alloc,World.drew,-World.alloc_eq,-World.drew_eq,Addr.add])
     have hb2:(convert 91 9 (Value.slice (some ⟨W7.heap.size,0,none⟩) 1 1)).run Tryz.prog (W7.alloc (.cells #[.int .u8 ((x[0].toNat:Int) - 32)] 5)).drew=.ok (.string ⟨#[x[0] - 32]⟩) (W7.alloc (.cells #[.int .u8 ((x[0].toNat:Int) - 32)] 5)).drew:=hback
     clear hsub hback
     go_wp2_with fail
     go_region
     have hT9:P2 w (W7.alloc (.cells #[.int .u8 ((x[0].toNat:Int) - 32)] 5)).drew T sp []:=(hT7.step ((Below.refl _ W7).alloc (Nat.le_refl _) _).drew)
     generalize (W7.alloc (.cells #[.int .u8 ((x[0].toNat:Int) - 32)] 5)).drew=Wq at *
     clear hT7 hb2
     have hT7:=hT9
     clear hT9
     generalize hy:(⟨#[x[0] - 32]⟩ ++ x.extract 1 x.size:ByteArray)=y
     have hyd:upHead x.data.toList=y.data.toList:=by
      rw [HU.out,← hy,ByteArray.data_append,Array.toList_append,Lib.extract_to_end]
      rfl
     have hysz:y.size≤x.size:=by
      rw [size_len,← hyd,HU.out,List.length_cons,List.length_drop,← size_len]
      omega
     clear hy HU he h97 h122
     have HU:=Lib.hid hyd;clear hyd
     have c0:=hT7.2.2.1.c0
     have c1:=hT7.2.2.1.c1
     have f1:=hT7.2.2.1.f1
     go_upto_if 54 with fail
     have hT8:=hT7.set1x y
     clear c0 c1 f1 hT7
     generalize Wq.setCell ⟨T,1,none⟩ (.string y)=W8 at *
     have d0:=hT8.2.1.c0
     have d1:=hT8.2.1.c1
     have g0:=hT8.2.1.f0
     have g1:=hT8.2.1.f1
     by_cases hl:100<(y).size
     ·have hres:parseP s.data.toList=(3,0,[]):=by rw [HP.out,HU.out];unfold ends;rw [if_pos (by rw [← size_len];exact hl)]
      have HR:=Lib.hid hres;clear hres HP
      go_wp2
      have hF:=(hT8.2.1.set0 0).set1 []
      have hFB:=(hT8.1.setCell (p:=⟨w.heap.size,0,none⟩) (Nat.le_refl _) (.int .i64 0)).setCell (p:=⟨w.heap.size,1,none⟩) (Nat.le_refl _) (.string ⟨#[]⟩)
      generalize (W8.setCell ⟨w.heap.size,0,none⟩ (.int .i64 0)).setCell ⟨w.heap.size,1,none⟩ (.string ⟨#[]⟩)=WF at *
      have e0:=hF.c0
      have e1:=hF.c1
      exact bodyPost_ret (v:=.tuple #[.agg #[.int .i64 0,.string ⟨#[]⟩],.int .i64 3]) (by simp [results,Tryz.results159,go_sem,e0,e1]) rfl ⟨by rw [HR.out];rfl,hFB⟩
     ·have k0:=hT8.2.2.1.c0
      have k1:=hT8.2.2.1.c1
      rw [bytes_back] at k1
      have hVL:=valid_ok sp y W8 (by omega) (hg.below hT8.1)
      cases hv:valid sp (y).data.toList with
      | true =>
       have hres:parseP s.data.toList=(0,sp,(y).data.toList):=by rw [HP.out,HU.out];unfold ends;rw [if_neg (by rw [← size_len];exact hl),if_pos hv]
       rw [hv] at hVL
       have HR:=Lib.hid hres;clear hres HP hv
       go_wp2_with (go_at_call 127;refine hVL.mono ?_)
       rintro e W9 ⟨rfl,b9⟩
       have hT9:=hT8.step b9
       clear d0 d1 g0 g1 k0 k1
       have d0:=hT9.2.1.c0
       have d1:=hT9.2.1.c1
       have g0:=hT9.2.1.f0
       have g1:=hT9.2.1.f1
       have k0:=hT9.2.2.1.c0
       have k1:=hT9.2.2.1.c1
       rw [bytes_back] at k1
       go_wp2
       have hF:=(hT9.2.1.set0 sp).set1 (y).data.toList
       rw [bytes_back] at hF
       have hFB:=(hT9.1.setCell (p:=⟨w.heap.size,0,none⟩) (Nat.le_refl _) (.int .i64 sp)).setCell (p:=⟨w.heap.size,1,none⟩) (Nat.le_refl _) (.string y)
       generalize (W9.setCell ⟨w.heap.size,0,none⟩ (.int .i64 sp)).setCell ⟨w.heap.size,1,none⟩ (.string y)=WF at *
       have e0:=hF.c0
       have e1:=hF.c1
       rw [bytes_back] at e1
       exact bodyPost_ret (v:=.tuple #[.agg #[.int .i64 sp,.string y],.int .i64 0]) (by simp [results,Tryz.results159,go_sem,e0,e1]) rfl ⟨by rw [HR.out];rfl,hFB⟩
      | false =>
       have hres:parseP s.data.toList=(1,0,[]):=by rw [HP.out,HU.out];unfold ends;rw [if_neg (by rw [← size_len];exact hl),if_neg (by rw [hv];exact Bool.false_ne_true)]
       rw [hv] at hVL
       have HR:=Lib.hid hres;clear hres HP hv
       go_wp2_with (go_at_call 127;refine hVL.mono ?_)
       rintro e W9 ⟨rfl,b9⟩
       have hT9:=hT8.step b9
       clear d0 d1 g0 g1 k0 k1
       have d0:=hT9.2.1.c0
       have d1:=hT9.2.1.c1
       have g0:=hT9.2.1.f0
       have g1:=hT9.2.1.f1
       go_wp2
       have hF:=(hT9.2.1.set0 0).set1 []
       have hFB:=(hT9.1.setCell (p:=⟨w.heap.size,0,none⟩) (Nat.le_refl _) (.int .i64 0)).setCell (p:=⟨w.heap.size,1,none⟩) (Nat.le_refl _) (.string ⟨#[]⟩)
       generalize (W9.setCell ⟨w.heap.size,0,none⟩ (.int .i64 0)).setCell ⟨w.heap.size,1,none⟩ (.string ⟨#[]⟩)=WF at *
       have e0:=hF.c0
       have e1:=hF.c1
       exact bodyPost_ret (v:=.tuple #[.agg #[.int .i64 0,.string ⟨#[]⟩],.int .i64 1]) (by simp [results,Tryz.results159,go_sem,e0,e1]) rfl ⟨by rw [HR.out];rfl,hFB⟩
    ·have hu:upHead x.data.toList=x.data.toList:=upHead_no h0 hlow
     have he:x.toList.isEmpty=false:=nonempty_b h0
     have HU:=Lib.hid hu;clear hu hxs
     by_cases h97:97≤(x[0].toNat:Int)
     ·have h122:¬ (x[0].toNat:Int)≤122:=fun h=>hlow ⟨h97,h⟩
      clear hlow
      have c0:=hT7.2.2.1.c0
      have c1:=hT7.2.2.1.c1
      have f1:=hT7.2.2.1.f1
      go_upto_if 54 with fail
      have hT8:=hT7.set1x x
      clear c0 c1 f1 hT7
      generalize W7.setCell ⟨T,1,none⟩ (.string x)=W8 at *
      have d0:=hT8.2.1.c0
      have d1:=hT8.2.1.c1
      have g0:=hT8.2.1.f0
      have g1:=hT8.2.1.f1
      by_cases hl:100<(x).size
      ·have hres:parseP s.data.toList=(3,0,[]):=by rw [HP.out,HU.out];unfold ends;rw [if_pos (by rw [← size_len];exact hl)]
       have HR:=Lib.hid hres;clear hres HP
       go_wp2
       have hF:=(hT8.2.1.set0 0).set1 []
       have hFB:=(hT8.1.setCell (p:=⟨w.heap.size,0,none⟩) (Nat.le_refl _) (.int .i64 0)).setCell (p:=⟨w.heap.size,1,none⟩) (Nat.le_refl _) (.string ⟨#[]⟩)
       generalize (W8.setCell ⟨w.heap.size,0,none⟩ (.int .i64 0)).setCell ⟨w.heap.size,1,none⟩ (.string ⟨#[]⟩)=WF at *
       have e0:=hF.c0
       have e1:=hF.c1
       exact bodyPost_ret (v:=.tuple #[.agg #[.int .i64 0,.string ⟨#[]⟩],.int .i64 3]) (by simp [results,Tryz.results159,go_sem,e0,e1]) rfl ⟨by rw [HR.out];rfl,hFB⟩
      ·have k0:=hT8.2.2.1.c0
       have k1:=hT8.2.2.1.c1
       rw [bytes_back] at k1
       have hVL:=valid_ok sp x W8 (by omega) (hg.below hT8.1)
       cases hv:valid sp (x).data.toList with
       | true =>
        have hres:parseP s.data.toList=(0,sp,(x).data.toList):=by rw [HP.out,HU.out];unfold ends;rw [if_neg (by rw [← size_len];exact hl),if_pos hv]
        rw [hv] at hVL
        have HR:=Lib.hid hres;clear hres HP hv
        go_wp2_with (go_at_call 127;refine hVL.mono ?_)
        rintro e W9 ⟨rfl,b9⟩
        have hT9:=hT8.step b9
        clear d0 d1 g0 g1 k0 k1
        have d0:=hT9.2.1.c0
        have d1:=hT9.2.1.c1
        have g0:=hT9.2.1.f0
        have g1:=hT9.2.1.f1
        have k0:=hT9.2.2.1.c0
        have k1:=hT9.2.2.1.c1
        rw [bytes_back] at k1
        go_wp2
        have hF:=(hT9.2.1.set0 sp).set1 (x).data.toList
        rw [bytes_back] at hF
        have hFB:=(hT9.1.setCell (p:=⟨w.heap.size,0,none⟩) (Nat.le_refl _) (.int .i64 sp)).setCell (p:=⟨w.heap.size,1,none⟩) (Nat.le_refl _) (.string x)
        generalize (W9.setCell ⟨w.heap.size,0,none⟩ (.int .i64 sp)).setCell ⟨w.heap.size,1,none⟩ (.string x)=WF at *
        have e0:=hF.c0
        have e1:=hF.c1
        rw [bytes_back] at e1
        exact bodyPost_ret (v:=.tuple #[.agg #[.int .i64 sp,.string x],.int .i64 0]) (by simp [results,Tryz.results159,go_sem,e0,e1]) rfl ⟨by rw [HR.out];rfl,hFB⟩
       | false =>
        have hres:parseP s.data.toList=(1,0,[]):=by rw [HP.out,HU.out];unfold ends;rw [if_neg (by rw [← size_len];exact hl),if_neg (by rw [hv];exact Bool.false_ne_true)]
        rw [hv] at hVL
        have HR:=Lib.hid hres;clear hres HP hv
        go_wp2_with (go_at_call 127;refine hVL.mono ?_)
        rintro e W9 ⟨rfl,b9⟩
        have hT9:=hT8.step b9
        clear d0 d1 g0 g1 k0 k1
        have d0:=hT9.2.1.c0
        have d1:=hT9.2.1.c1
        have g0:=hT9.2.1.f0
        have g1:=hT9.2.1.f1
        go_wp2
        have hF:=(hT9.2.1.set0 0).set1 []
        have hFB:=(hT9.1.setCell (p:=⟨w.heap.size,0,none⟩) (Nat.le_refl _) (.int .i64 0)).setCell (p:=⟨w.heap.size,1,none⟩) (Nat.le_refl _) (.string ⟨#[]⟩)
        generalize (W9.setCell ⟨w.heap.size,0,none⟩ (.int .i64 0)).setCell ⟨w.heap.size,1,none⟩ (.string ⟨#[]⟩)=WF at *
        have e0:=hF.c0
        have e1:=hF.c1
        exact bodyPost_ret (v:=.tuple #[.agg #[.int .i64 0,.string ⟨#[]⟩],.int .i64 1]) (by simp [results,Tryz.results159,go_sem,e0,e1]) rfl ⟨by rw [HR.out];rfl,hFB⟩
     ·clear hlow
      have c0:=hT7.2.2.1.c0
      have c1:=hT7.2.2.1.c1
      have f1:=hT7.2.2.1.f1
      go_upto_if 54 with fail
      have hT8:=hT7.set1x x
      clear c0 c1 f1 hT7
      generalize W7.setCell ⟨T,1,none⟩ (.string x)=W8 at *
      have d0:=hT8.2.1.c0
      have d1:=hT8.2.1.c1
      have g0:=hT8.2.1.f0
      have g1:=hT8.2.1.f1
      by_cases hl:100<(x).size
      ·have hres:parseP s.data.toList=(3,0,[]):=by rw [HP.out,HU.out];unfold ends;rw [if_pos (by rw [← size_len];exact hl)]
       have HR:=Lib.hid hres;clear hres HP
       go_wp2
       have hF:=(hT8.2.1.set0 0).set1 []
       have hFB:=(hT8.1.setCell (p:=⟨w.heap.size,0,none⟩) (Nat.le_refl _) (.int .i64 0)).setCell (p:=⟨w.heap.size,1,none⟩) (Nat.le_refl _) (.string ⟨#[]⟩)
       generalize (W8.setCell ⟨w.heap.size,0,none⟩ (.int .i64 0)).setCell ⟨w.heap.size,1,none⟩ (.string ⟨#[]⟩)=WF at *
       have e0:=hF.c0
       have e1:=hF.c1
       exact bodyPost_ret (v:=.tuple #[.agg #[.int .i64 0,.string ⟨#[]⟩],.int .i64 3]) (by simp [results,Tryz.results159,go_sem,e0,e1]) rfl ⟨by rw [HR.out];rfl,hFB⟩
      ·have k0:=hT8.2.2.1.c0
       have k1:=hT8.2.2.1.c1
       rw [bytes_back] at k1
       have hVL:=valid_ok sp x W8 (by omega) (hg.below hT8.1)
       cases hv:valid sp (x).data.toList with
       | true =>
        have hres:parseP s.data.toList=(0,sp,(x).data.toList):=by rw [HP.out,HU.out];unfold ends;rw [if_neg (by rw [← size_len];exact hl),if_pos hv]
        rw [hv] at hVL
        have HR:=Lib.hid hres;clear hres HP hv
        go_wp2_with (go_at_call 127;refine hVL.mono ?_)
        rintro e W9 ⟨rfl,b9⟩
        have hT9:=hT8.step b9
        clear d0 d1 g0 g1 k0 k1
        have d0:=hT9.2.1.c0
        have d1:=hT9.2.1.c1
        have g0:=hT9.2.1.f0
        have g1:=hT9.2.1.f1
        have k0:=hT9.2.2.1.c0
        have k1:=hT9.2.2.1.c1
        rw [bytes_back] at k1
        go_wp2
        have hF:=(hT9.2.1.set0 sp).set1 (x).data.toList
        rw [bytes_back] at hF
        have hFB:=(hT9.1.setCell (p:=⟨w.heap.size,0,none⟩) (Nat.le_refl _) (.int .i64 sp)).setCell (p:=⟨w.heap.size,1,none⟩) (Nat.le_refl _) (.string x)
        generalize (W9.setCell ⟨w.heap.size,0,none⟩ (.int .i64 sp)).setCell ⟨w.heap.size,1,none⟩ (.string x)=WF at *
        have e0:=hF.c0
        have e1:=hF.c1
        rw [bytes_back] at e1
        exact bodyPost_ret (v:=.tuple #[.agg #[.int .i64 sp,.string x],.int .i64 0]) (by simp [results,Tryz.results159,go_sem,e0,e1]) rfl ⟨by rw [HR.out];rfl,hFB⟩
       | false =>
        have hres:parseP s.data.toList=(1,0,[]):=by rw [HP.out,HU.out];unfold ends;rw [if_neg (by rw [← size_len];exact hl),if_neg (by rw [hv];exact Bool.false_ne_true)]
        rw [hv] at hVL
        have HR:=Lib.hid hres;clear hres HP hv
        go_wp2_with (go_at_call 127;refine hVL.mono ?_)
        rintro e W9 ⟨rfl,b9⟩
        have hT9:=hT8.step b9
        clear d0 d1 g0 g1 k0 k1
        have d0:=hT9.2.1.c0
        have d1:=hT9.2.1.c1
        have g0:=hT9.2.1.f0
        have g1:=hT9.2.1.f1
        go_wp2
        have hF:=(hT9.2.1.set0 0).set1 []
        have hFB:=(hT9.1.setCell (p:=⟨w.heap.size,0,none⟩) (Nat.le_refl _) (.int .i64 0)).setCell (p:=⟨w.heap.size,1,none⟩) (Nat.le_refl _) (.string ⟨#[]⟩)
        generalize (W9.setCell ⟨w.heap.size,0,none⟩ (.int .i64 0)).setCell ⟨w.heap.size,1,none⟩ (.string ⟨#[]⟩)=WF at *
        have e0:=hF.c0
        have e1:=hF.c1
        exact bodyPost_ret (v:=.tuple #[.agg #[.int .i64 0,.string ⟨#[]⟩],.int .i64 1]) (by simp [results,Tryz.results159,go_sem,e0,e1]) rfl ⟨by rw [HR.out];rfl,hFB⟩
   ·have hnil:x.data.toList=[]:=List.eq_nil_of_length_eq_zero (by omega)
    clear hxs
    have he:x.toList.isEmpty=true:=by rw [ByteArray.toList_eq,hnil];rfl
    have hu:upHead x.data.toList=x.data.toList:=by rw [hnil];rfl
    have HU:=Lib.hid hu;clear hu hnil
    have c0:=hT7.2.2.1.c0
    have c1:=hT7.2.2.1.c1
    have f1:=hT7.2.2.1.f1
    go_upto_if 54 with fail
    have hT8:=hT7.set1x x
    clear c0 c1 f1 hT7
    generalize W7.setCell ⟨T,1,none⟩ (.string x)=W8 at *
    have d0:=hT8.2.1.c0
    have d1:=hT8.2.1.c1
    have g0:=hT8.2.1.f0
    have g1:=hT8.2.1.f1
    have hl:¬ 100<(x).size:=by omega
    have k0:=hT8.2.2.1.c0
    have k1:=hT8.2.2.1.c1
    rw [bytes_back] at k1
    have hVL:=valid_ok sp x W8 (by omega) (hg.below hT8.1)
    cases hv:valid sp (x).data.toList with
    | true =>
     have hres:parseP s.data.toList=(0,sp,(x).data.toList):=by rw [HP.out,HU.out];unfold ends;rw [if_neg (by rw [← size_len];exact hl),if_pos hv]
     rw [hv] at hVL
     have HR:=Lib.hid hres;clear hres HP hv
     go_wp2_with (go_at_call 127;refine hVL.mono ?_)
     rintro e W9 ⟨rfl,b9⟩
     have hT9:=hT8.step b9
     clear d0 d1 g0 g1 k0 k1
     have d0:=hT9.2.1.c0
     have d1:=hT9.2.1.c1
     have g0:=hT9.2.1.f0
     have g1:=hT9.2.1.f1
     have k0:=hT9.2.2.1.c0
     have k1:=hT9.2.2.1.c1
     rw [bytes_back] at k1
     go_wp2
     have hF:=(hT9.2.1.set0 sp).set1 (x).data.toList
     rw [bytes_back] at hF
     have hFB:=(hT9.1.setCell (p:=⟨w.heap.size,0,none⟩) (Nat.le_refl _) (.int .i64 sp)).setCell (p:=⟨w.heap.size,1,none⟩) (Nat.le_refl _) (.string x)
     generalize (W9.setCell ⟨w.heap.size,0,none⟩ (.int .i64 sp)).setCell ⟨w.heap.size,1,none⟩ (.string x)=WF at *
     have e0:=hF.c0
     have e1:=hF.c1
     rw [bytes_back] at e1
     exact bodyPost_ret (v:=.tuple #[.agg #[.int .i64 sp,.string x],.int .i64 0]) (by simp [results,Tryz.results159,go_sem,e0,e1]) rfl ⟨by rw [HR.out];rfl,hFB⟩
    | false =>
     have hres:parseP s.data.toList=(1,0,[]):=by rw [HP.out,HU.out];unfold ends;rw [if_neg (by rw [← size_len];exact hl),if_neg (by rw [hv];exact Bool.false_ne_true)]
     rw [hv] at hVL
     have HR:=Lib.hid hres;clear hres HP hv
     go_wp2_with (go_at_call 127;refine hVL.mono ?_)
     rintro e W9 ⟨rfl,b9⟩
     have hT9:=hT8.step b9
     clear d0 d1 g0 g1 k0 k1
     have d0:=hT9.2.1.c0
     have d1:=hT9.2.1.c1
     have g0:=hT9.2.1.f0
     have g1:=hT9.2.1.f1
     go_wp2
     have hF:=(hT9.2.1.set0 0).set1 []
     have hFB:=(hT9.1.setCell (p:=⟨w.heap.size,0,none⟩) (Nat.le_refl _) (.int .i64 0)).setCell (p:=⟨w.heap.size,1,none⟩) (Nat.le_refl _) (.string ⟨#[]⟩)
     generalize (W9.setCell ⟨w.heap.size,0,none⟩ (.int .i64 0)).setCell ⟨w.heap.size,1,none⟩ (.string ⟨#[]⟩)=WF at *
     have e0:=hF.c0
     have e1:=hF.c1
     exact bodyPost_ret (v:=.tuple #[.agg #[.int .i64 0,.string ⟨#[]⟩],.int .i64 1]) (by simp [results,Tryz.results159,go_sem,e0,e1]) rfl ⟨by rw [HR.out];rfl,hFB⟩
end Go.Proofs
