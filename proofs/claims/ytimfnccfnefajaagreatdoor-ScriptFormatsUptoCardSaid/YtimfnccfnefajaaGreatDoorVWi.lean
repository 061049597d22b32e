/- A part of the proof: Wx, Wy -/
import Derived.Test.YtimfnccfnefajaaGreatDoorVWh
set_option linter.unusedSimpArgs false
set_option linter.unusedVariables false
namespace Go.Proofs
open Go.RowKit Go.Sp
theorem info33:(Tryz.prog.info? 33).map (fun i=>(i.zero,i.size,i.bytes))=some (some (.agg #[.int .i64 0,.string ⟨#[]⟩,.string ⟨#[]⟩,.int .i64 0,.string ⟨#[]⟩,.int .i64 0,.string ⟨#[]⟩,.string ⟨#[]⟩,.int .i64 0,.int .i64 0,.slice none 0 0]),11,144):=by kernel_rfl
theorem und46:Tryz.prog.underlying 46=some (.slice 33):=by kernel_rfl
def pcells (ps:List (Ev×Value)):List Value:=ps.flatMap fun p=>(ecells p.1 p.2).toList
theorem pcells_snoc (ps:List (Ev×Value)) (p:Ev×Value):pcells (ps ++ [p])=pcells ps ++ (ecells p.1 p.2).toList:=by
 unfold pcells
 rw [List.flatMap_append];simp
structure EvsOwn (w:World) (base:Nat) (v:Value) (ps:List (Ev×Value)):Prop where
 row:w.ownsRow base 33 11 v ps.length (pcells ps)
 hist:∀ p∈ps,w.ownsRow base 66 6 p.2 p.1.hist.length (hcells p.1.hist)
theorem EvsOwn.nil (w:World) (base:Nat):EvsOwn w base (.slice none 0 0) []:=⟨World.ownsRow_nil _ _ _ _,fun p hp=>by cases hp⟩
theorem EvsOwn.below {w w':World} {base:Nat} {v:Value} {ps:List (Ev×Value)} (h:EvsOwn w base v ps) (x:Below w.heap.size w w'):EvsOwn w' base v ps:=⟨owns_below h.row x,fun p hp=>owns_below (h.hist p hp) x⟩
theorem EvsOwn.mono {w:World} {base base':Nat} {v:Value} {ps:List (Ev×Value)} (h:EvsOwn w base v ps) (hb:base'≤base):EvsOwn w base' v ps:=⟨owns_mono h.row hb,fun p hp=>owns_mono (h.hist p hp) hb⟩
theorem owns_apart {w:World} {b1 b2 s1 s2 e1 e2:Nat} {v u:Value} {n m:Nat} {xs ys:List Value} (h:w.ownsRow b1 e1 s1 v n xs) (k:w.ownsRow b2 e2 s2 u m ys) (he:e1≠e2):v.ownBlock=none∨v.ownBlock≠u.ownBlock:=by
 rcases h.2 with ⟨rfl,_⟩ | ⟨g,cap,cur,rfl,_,hg,_⟩
 ·exact .inl rfl
 ·refine .inr fun hq=>?_
  rcases k.2 with ⟨rfl,_⟩ | ⟨g',cap',cur',rfl,_,hg',_⟩
  ·cases hq
  ·have hgg:g=g':=Option.some.inj hq
   subst hgg
   rw [hg] at hg'
   injection hg' with hg'
   injection hg' with _ h2 _
   exact he h2
theorem evs_push {W w1:World} {base:Nat} {v v1 h:Value} {ps:List (Ev×Value)} {x:Ev} {o:Obj} (hp:EvsOwn W base v ps) (hh:W.ownsRow base 66 6 h x.hist.length (hcells x.hist)) (hown:w1.ownsRow base 33 11 v1 (ps.length+1) (pcells ps ++ (ecells x h).toList)) (hg:(W.alloc o).grownBy w1 v.ownBlock):EvsOwn w1 base v1 (ps ++ [(x,h)]):=by
 refine ⟨by rw [pcells_snoc,List.length_append];exact hown,fun p hm=>?_⟩
 rcases List.mem_append.1 hm with hm | hm
 ·exact ((hp.hist p hm).alloc o).kept hg (owns_apart (hp.hist p hm) hp.row (by decide))
 ·obtain rfl:=List.mem_singleton.1 hm
  exact (hh.alloc o).kept hg (owns_apart hh hp.row (by decide))
def RetP (s:Bs) (w:World) (e:Ending) (w':World):Prop:=Below w.heap.size w w'∧∃ v ps,EvsOwn w' w.heap.size v ps∧e=.returned (.tuple #[v,.int .i64 (parseS s).2.1,.int .i64 (parseS s).2.2])∧(parseS s).1=ps.map (·.1)
theorem one_ecells (x:Ev) (h:Value) (hh:h.oneCell'=true):∀ u∈(ecells x h).toList,u.oneCell'=true:=by
 intro u hu
 simp only [ecells,List.mem_cons,List.not_mem_nil,or_false] at hu
 rcases hu with rfl | rfl | rfl | rfl | rfl | rfl | rfl | rfl | rfl | rfl | rfl <;> first | rfl | exact hh
theorem drop_at {α:Type} (d:α) {L:List α} {k:Nat} (h:k<L.length):L.drop k=L.getD k d :: L.drop (k+1):=by
 rw [List.drop_eq_getElem_cons h]
 congr 1
 rw [List.getD_eq_getElem?_getD,List.getElem?_eq_getElem h];rfl
theorem joinR_bad (es:List Ev) (n:Int):joinR es ([],n,1)=([],n,1):=by unfold joinR;rw [if_neg (show ¬ (1:Int)=0 by decide)]
set_option maxRecDepth 100000 in
set_option maxHeartbeats 4000000 in
theorem Parse_ok (s:ByteArray) (w:World) (hs:s.size<4294960000) (hg:GlN w):Calls Tryz.prog 20 #[.string s] w (RetP s.data.toList w):=by
 obtain ⟨i0,hi,hz0,hz1,hz2⟩:=info_parts info33
 have hT:=fun W=>Tryz.strings_TrimSuffix s ⟨#[10]⟩ W (by omega)
 have ht:(Lib.trimSuffix s.data.toList [10]).length≤s.data.toList.length:=by
  unfold Lib.trimSuffix;split <;> simp
 have hSp:=splitOk ⟨(Lib.trimSuffix s.data.toList [10]).toArray⟩ 10 w (by show (Lib.trimSuffix s.data.toList [10]).length<_;rw [size_len] at hs;omega) hg.toGl
 change Calls _ _ _ _ (RetL (splitL 10 (Lib.trimSuffix s.data.toList [10])) w) at hSp
 have hLn:=splitL_len 10 (Lib.trimSuffix s.data.toList [10])
 have hLj:=splitL_at 10 (Lib.trimSuffix s.data.toList [10])
 have hP:parseS s.data.toList=if 32768<s.data.toList.length∨400<(bodyOf s.data.toList).length then ([],0,3) else linesS 0 (bodyOf s.data.toList):=rfl
 rw [← size_len] at hP ht
 unfold bodyOf at hP
 have HP:=Lib.hid hP
 have HLN:=Lib.hid hLn
 clear hP hLn
 generalize splitL 10 (Lib.trimSuffix s.data.toList [10])=L at *
 go_enter Tryz.func20,Tryz.ntmps20
 go_wp2_with (first | (go_at_call 44;refine (hT _).mono ?_) | (go_at_call 43;refine hSp.mono ?_))
 rintro e W2 ⟨rfl,b2,hr,hlt⟩
 clear hT hSp
 have HB2:=Lib.hid b2
 generalize hB:w.heap.size=B at *
 have HB:=Lib.hid hB
 clear hB b2
 generalize hn:L.length=n at *
 have HN:=Lib.hid hn
 clear hn
 by_cases h1:32768<s.size
 ·have hR:parseS s.data.toList=([],0,3):=by rw [HP.out,if_pos (.inl h1)]
  have HR:=Lib.hid hR
  clear hR
  go_wp2
  exact bodyPost_ret (v:=.tuple #[.slice none 0 0,.int .i64 0,.int .i64 3]) (by simp [results,Tryz.results20,go_sem]) rfl ⟨by rw [HB.out];exact HB2.out,.slice none 0 0,[],EvsOwn.nil _ _,by rw [HR.out],by rw [HR.out];rfl⟩
 ·by_cases h2:400<n
  ·have hR:parseS s.data.toList=([],0,3):=by rw [HP.out,if_pos (.inr h2)]
   have HR:=Lib.hid hR
   clear hR
   go_wp2
   exact bodyPost_ret (v:=.tuple #[.slice none 0 0,.int .i64 0,.int .i64 3]) (by simp [results,Tryz.results20,go_sem]) rfl ⟨by rw [HB.out];exact HB2.out,.slice none 0 0,[],EvsOwn.nil _ _,by rw [HR.out],by rw [HR.out];rfl⟩
  ·have hR:parseS s.data.toList=linesS 0 L:=by rw [HP.out,if_neg (fun h=>by rcases h with h | h;exact h1 h;exact h2 h)]
   have HR:=Lib.hid hR
   clear hR
   go_wp2
   go_loopw [6,24] (fun v i wr=>∃ (k:Nat) (ps:List (Ev×Value)),k≤n∧i=.int .i64 k∧Below W2.heap.size W2 wr∧EvsOwn wr W2.heap.size v ps∧ps.length≤k∧linesS 0 L=joinR (ps.map (·.1)) (linesS k (L.drop k))) (fun _ i _=>n - (intOf i).toNat)
   case atStart=>exact ⟨0,[],Nat.zero_le _,rfl,Below.refl _ _,EvsOwn.nil _ _,Nat.le_refl _,by rw [List.drop_zero];exact joinR_nil.symm⟩
   case round =>
    obtain ⟨k,ps,hk,rfl,hW,hE,hpk,hl⟩:=hrel
    by_cases hkn:k<n
    ·rw [drop_at [] (by rw [HN.out];exact hkn)] at hl
     have hc:=(hr.toO.below hlt hW) k (by rw [HN.out];exact hkn)
     rw [Nat.zero_add] at hc
     have hlk:=hLj k
     generalize L.getD k []=lk at *
     cases lk with
     | nil =>
      rw [linesS_note (.inl rfl)] at hl
      have HL:=Lib.hid hl
      clear hl hg hi hz0 hz1 hz2 hlk hLj
      go_wp2
      go_roundw
      case rel=>exact ⟨k+1,ps,by omega,by go_num,hW,hE,by omega,HL.out⟩
      case measure=>simp [intOf];omega
     | cons c r =>
      by_cases hc35:c=35
      ·subst hc35
       rw [linesS_note (.inr rfl)] at hl
       have HL:=Lib.hid hl
       clear hl hg hi hz0 hz1 hz2 hlk hLj
       go_wp2
       go_roundw
       case rel=>exact ⟨k+1,ps,by omega,by go_num,hW,hE,by omega,HL.out⟩
       case measure=>simp [intOf];omega
      ·have hcc:((((⟨(c :: r).toArray⟩:ByteArray)[0]'(Nat.zero_lt_succ _)).toNat:Int) == 35)=false:=by
        show ((c.toNat:Int) == 35)=false
        rw [beq_eq_false_iff_ne]
        intro h
        exact hc35 (UInt8.toNat_inj.1 (by show c.toNat=35;omega))
       have hnn:¬ isNote (c :: r):=by
        intro h
        rcases h with h | h
        ·cases h
        ·exact hc35 (Option.some.inj h)
       have hPar:=parse_try ⟨(c :: r).toArray⟩ wr (by show (c :: r).length<_;omega) ((hg.below (by rw [HB.out];exact HB2.out)).below hW)
       change Calls _ _ _ _ (RetE (c :: r) wr) at hPar
       clear hg hlk hLj
       have HL:=Lib.hid hl
       have HNN:=Lib.hid hnn
       clear hl hnn
       go_wp2_with (go_at_call 41;refine hPar.mono ?_)
       rintro e W3 ⟨b3,hres⟩
       have hEW:=hE.below b3
       have hW3:=hW.trans (b3.mono hW.size)
       have hz3:W2.heap.size≤W3.heap.size:=hW3.size
       have hzw:W2.heap.size≤wr.heap.size:=hW.size
       clear hPar hW hE hc
       rcases hres with ⟨hno,x,A,m,c',rfl⟩ | ⟨x,h,hso,rfl,ho3⟩
       ·have hB4:Below W3.heap.size W3 (W3.alloc (.cells (ecells x (.slice A m c')) 33)):=(Below.refl _ W3).alloc (Nat.le_refl _) _
        have hwB:w.heap.size≤W2.heap.size:=by rw [HB.out];exact Nat.le_of_lt hlt
        have hBB:Below w.heap.size w (W3.alloc (.cells (ecells x (.slice A m c')) 33)):=(show Below w.heap.size w W2 by rw [HB.out];exact HB2.out).trans ((hW3.trans (hB4.mono hz3)).mono hwB)
        unfold ecells at hBB
        have HBB:=Lib.hid hBB
        have HNO:=Lib.hid hno
        clear hno hi hz0 hz1 hz2 hB4 hBB
        unfold evV ecells
        go_wp2
        exact bodyPost_ret (v:=.tuple #[.slice none 0 0,.int .i64 ((k:Int)+1),.int .i64 1]) (by simp [results,Tryz.results20,go_sem]) rfl ⟨HBB.out,.slice none 0 0,[],EvsOwn.nil _ _,by rw [HR.out,HL.out,linesS_bad HNN.out HNO.out,joinR_bad],by rw [HR.out,HL.out,linesS_bad HNN.out HNO.out,joinR_bad];rfl⟩
       ·obtain ⟨A,m,c',rfl⟩:=owns_slice ho3
        have hE4:=EBlk.new W3 x (.slice A m c')
        have hB4:Below W3.heap.size W3 (W3.alloc (.cells (ecells x (.slice A m c')) 33)):=(Below.refl _ W3).alloc (Nat.le_refl _) _
        have hEW4:=hEW.below hB4
        have ho4:=owns_below (owns_mono ho3 hzw) hB4
        have hW4:=hW3.trans (hB4.mono hz3)
        have hz4:=hW4.size
        have hl2:linesS 0 L=joinR ((ps ++ [(x,Value.slice A m c')]).map fun p=>p.1) (linesS (k+1) (L.drop (k+1))):=by
                  rw [HL.out,linesS_good HNN.out hso,joinR_joinR,List.map_append];rfl
        have HL2:=Lib.hid hl2
        unfold ecells at hE4 hEW4 ho4 hW4 hz4
        unfold evV ecells
        clear hB4 hEW ho3 hW3 hl2 hso b3
        go_upto_region 12 with fail
        generalize W3.alloc (.cells #[.int .i64 x.kind,.string ⟨x.user.toArray⟩,.string ⟨x.note.toArray⟩,.int .i64 x.tSp,.string ⟨x.tN.toArray⟩,.int .i64 x.oSp,.string ⟨x.oN.toArray⟩,.string ⟨x.text.toArray⟩,.int .i64 x.base,.int .i64 x.n,.slice A m c'] 33)=W4 at *
        have e0:=hE4.c0
        have e1:=hE4.c1
        have e2:=hE4.c2
        have e3:=hE4.c3
        have e4:=hE4.c4
        have e5:=hE4.c5
        have e6:=hE4.c6
        have e7:=hE4.c7
        have e8:=hE4.c8
        have e9:=hE4.c9
        have e10:=hE4.c10
        clear hE4
        go_wp2_with (at_builtin;refine wpList_append_own _ rfl _ _ 46 rfl W2.heap.size 33 i0 _ 11 144 und46 hi hz0 hz1 hz2 rfl (by decide) _ ps.length (pcells ps) rfl (hEW4.row.alloc _) ⟨W4.heap.size,0,none⟩ 1 1 (ecells x (.slice A m c')).toList rfl rfl (cell_new _ _ _) (one_ecells _ _ rfl) (by unfold maxLen;omega) (by omega) (by simp;omega) ?_;intro v1 w1 hown1 hgrow1 _hnil)
        have hE1:=evs_push hEW4 ho4 hown1 hgrow1
        have hW1:Below W2.heap.size W2 w1:=(hW4.alloc hz4 _).grown hgrow1 (by simp;omega) (fun g h=>owns_base hEW4.row g h)
        clear hown1 hgrow1 hEW4 ho4 hW4
        go_roundw
        case rel=>exact ⟨k+1,_,by omega,by go_num,hW1,hE1,by rw [List.length_append,List.length_singleton];omega,HL2.out⟩
        case measure=>simp [intOf];omega
    ·have hkn2:k=n:=by omega
     subst hkn2
     have hwB:w.heap.size≤W2.heap.size:=by rw [HB.out];exact Nat.le_of_lt hlt
     have hBB:Below w.heap.size w wr:=(show Below w.heap.size w W2 by rw [HB.out];exact HB2.out).trans (hW.mono hwB)
     rw [List.drop_eq_nil_of_le (by rw [HN.out];exact Nat.le_refl _)] at hl
     have hj:∀ es,joinR es (linesS k [])=(es,0,0):=fun es=>by unfold linesS joinR;simp
     rw [hj] at hl
     have hEw:=hE.mono hwB
     have HL:=Lib.hid hl
     obtain ⟨A,m,c',rfl⟩:=owns_slice hE.row
     clear hl hg hi hz0 hz1 hz2 hLj hj hW hE
     go_wp2
     exact bodyPost_ret (v:=.tuple #[.slice A m c',.int .i64 0,.int .i64 0]) (by simp [results,Tryz.results20,go_sem]) rfl ⟨hBB,_,ps,hEw,by rw [HR.out,HL.out],by rw [HR.out,HL.out]⟩
end Go.Proofs
namespace Go.Proofs
open Go.RowKit Go.Sp
def rv (l:List Rev) (i:Nat):Rev:=l.getD i ⟨0,[],[],[],0,0⟩
structure RevAt (w:World) (g p:Nat) (r:Rev):Prop where
 c0:w.cell? ⟨g,p,none⟩=some (.int .i64 r.number)
 c1:w.cell? ⟨g,p+1,none⟩=some (.string ⟨r.user.toArray⟩)
 c2:w.cell? ⟨g,p+2,none⟩=some (.string ⟨r.note.toArray⟩)
 c3:w.cell? ⟨g,p+3,none⟩=some (.string ⟨r.text.toArray⟩)
 c4:w.cell? ⟨g,p+4,none⟩=some (.int .i64 r.minute)
 c5:w.cell? ⟨g,p+5,none⟩=some (.int .i64 r.seq)
theorem RevAt.keep {w w':World} {g p:Nat} {r:Rev} (h:RevAt w g p r) (k:w'.heap[g]? = w.heap[g]?):RevAt w' g p r :=
 ⟨(World.cell?_of_block (a:=⟨g,p,none⟩) k).trans h.c0,(World.cell?_of_block (a:=⟨g,p+1,none⟩) k).trans h.c1,(World.cell?_of_block (a:=⟨g,p+2,none⟩) k).trans h.c2,(World.cell?_of_block (a:=⟨g,p+3,none⟩) k).trans h.c3,(World.cell?_of_block (a:=⟨g,p+4,none⟩) k).trans h.c4,(World.cell?_of_block (a:=⟨g,p+5,none⟩) k).trans h.c5⟩
def HRd (w:World) (A:Option Addr) (l:List Rev):Prop:=∀ i,i<l.length→∃ g o,A=some ⟨g,o,none⟩∧g<w.heap.size∧RevAt w g (o+i * 6) (rv l i)
theorem HRd.below {w w':World} {A:Option Addr} {l:List Rev} (h:HRd w A l) (x:Below w.heap.size w w'):HRd w' A l:=fun i hi=>by
 obtain ⟨g,o,h1,h2,h3⟩:=h i hi
 exact ⟨g,o,h1,Nat.lt_of_lt_of_le h2 x.size,h3.keep (x.block g h2)⟩
theorem hcells_at:∀ (l:List Rev) (i j:Nat),i<l.length→j<6→(hcells l)[i * 6+j]? = (rcells (rv l i))[j]?
 | [],_,_,h,_=>by cases h
 | r :: l,0,j,_,hj=>by
  rw [Nat.zero_mul,Nat.zero_add]
  show (rcells r ++ hcells l)[j]? = _
  rw [List.getElem?_append_left (by simpa [rcells] using hj)];rfl
 | r :: l,i+1,j,h,hj=>by
  show (rcells r ++ hcells l)[(i+1) * 6+j]? = _
  have hlen:(rcells r).length=6:=rfl
  rw [List.getElem?_append_right (by rw [hlen];omega),hlen,show (i+1) * 6+j - 6=i * 6+j from by omega,hcells_at l i j (by simpa using h) hj]
  rfl
theorem owns_rd {w:World} {base:Nat} {A:Option Addr} {m c:Nat} {l:List Rev} (h:w.ownsRow base 66 6 (.slice A m c) l.length (hcells l)):m=l.length∧HRd w A l:=by
 rcases h.2 with ⟨hv,hn⟩ | ⟨g,cap,cur,hv,hb,hg,hr⟩
 ·injection hv with h1 h2 h3
  exact ⟨by omega,fun i hi=>by omega⟩
 ·injection hv with h1 h2 h3
  subst h1 h2
  have hc:=h.cells (g:=g) rfl
  have hadd:∀ j,(⟨g,0,none⟩:Addr).add j=⟨g,j,none⟩:=fun j=>by unfold Addr.add;split <;> simp_all
  refine ⟨rfl,fun i hi=>⟨g,0,rfl,(Array.getElem?_eq_some_iff.1 hg).1,?_⟩⟩
  have hx:∀ j u,j<6→(rcells (rv l i))[j]? = some u→w.cell? ⟨g,i * 6+j,none⟩=some u:=fun j u hj hu=>by
   rw [← hadd];exact hc _ _ ((hcells_at l i j hi hj).trans hu)
  rw [Nat.zero_add]
  exact ⟨hx 0 _ (by decide) rfl,hx 1 _ (by decide) rfl,hx 2 _ (by decide) rfl,hx 3 _ (by decide) rfl,hx 4 _ (by decide) rfl,hx 5 _ (by decide) rfl⟩
theorem rev_ext {a b:List Rev} (h:a.length=b.length) (hx:∀ i,i<a.length→rv a i=rv b i):a=b:=by
 refine List.ext_getElem h fun i h1 h2=>?_
 have:=hx i h1
 unfold rv at this
 rwa [List.getD_eq_getElem?_getD,List.getD_eq_getElem?_getD,List.getElem?_eq_getElem h1,List.getElem?_eq_getElem h2] at this
theorem rev_cases (a b:Rev):a=b∨(a≠b∧(¬ a.number=b.number∨(a.number=b.number∧¬ a.user=b.user)∨(a.number=b.number∧a.user=b.user∧¬ a.note=b.note)∨(a.number=b.number∧a.user=b.user∧a.note=b.note∧¬ a.text=b.text)∨(a.number=b.number∧a.user=b.user∧a.note=b.note∧a.text=b.text∧¬ a.minute=b.minute)∨(a.number=b.number∧a.user=b.user∧a.note=b.note∧a.text=b.text∧a.minute=b.minute∧¬ a.seq=b.seq))):=by
 by_cases h:a=b
 ·exact .inl h
 ·refine .inr ⟨h,?_⟩
  obtain ⟨a1,a2,a3,a4,a5,a6⟩:=a
  obtain ⟨b1,b2,b3,b4,b5,b6⟩:=b
  by_cases h1:a1=b1
  ·by_cases h2:a2=b2
   ·by_cases h3:a3=b3
    ·by_cases h4:a4=b4
     ·by_cases h5:a5=b5
      ·by_cases h6:a6=b6
       ·subst h1 h2 h3 h4 h5 h6;exact absurd rfl h
       ·exact .inr (.inr (.inr (.inr (.inr ⟨h1,h2,h3,h4,h5,h6⟩))))
      ·exact .inr (.inr (.inr (.inr (.inl ⟨h1,h2,h3,h4,h5⟩))))
     ·exact .inr (.inr (.inr (.inl ⟨h1,h2,h3,h4⟩)))
    ·exact .inr (.inr (.inl ⟨h1,h2,h3⟩))
   ·exact .inr (.inl ⟨h1,h2⟩)
  ·exact .inl h1
end Go.Proofs
