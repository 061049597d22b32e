/- A part of the proof: KIns, KInsB, KInsC, KEnv -/
import Derived.Test.YtimfnccfnefajaaGreatDoorChecked
import Derived.KernelRfl
import Derived.Test.YtimfnccfnefajaaGreatDoorVEvI
import Derived.Test.YtimfnccfnefajaaGreatDoorVKa
import Derived.Test.YtimfnccfnefajaaGreatDoorVKb
set_option linter.unusedSimpArgs false
set_option linter.unusedVariables false
namespace Go.Ev
open Go.Proofs
noncomputable section
def badTy:List Nat:=[13,14,18,19,1075,1076,1085,1086]
def tyT:Tr TI:=mkTyH badTy Tryz.types.toList
def env0:Env:=⟨tyT,.leaf,.leaf,12,.leaf⟩
variable {ρ ρ':Ren} {D D':Dom} {K:Mem} {Pr:Nat→Prop} {s s':St} {w w':World} {fr:Fr}
theorem storeAt_at {n off:Nat} {vs:List AV} {e:TypeId} {frz:Nat} {sh:Bool} {v:AV} {new:List AV} (hg:s.H.get n=some (.cells vs e frz sh)) (h1:frz≤off) (h2:off+(v :: new).length≤vs.length) (h3:∀ x∈v :: new,x.one=true) :
 storeAt (n,off) (v :: new) s=some (setObj s n (.cells (putCells (v :: new) off vs) e frz sh)):=by
 show obind (s.H.get n) (putObj s n off (v :: new))=_
 rw [hg]
 show grd (band (Nat.ble frz off) (band (Nat.ble (Nat.add off (llen (v :: new))) (llen vs)) (lall AV.one (v :: new)))) (some (setObj s n (.cells (putCells (v :: new) off vs) e frz sh)))=_
 have e1:Nat.ble frz off=true:=by rw [ble_eq];simpa using h1
 have e2:Nat.ble (Nat.add off (llen (v :: new))) (llen vs)=true:=by rw [ble_eq,llen_eq,llen_eq];simpa using h2
 have e3:lall AV.one (v :: new)=true:=(lall_iff _ _).2 h3
 rw [e1,e2,e3]
 rfl
theorem copy_eq {E:Env} {ts:List TypeId} {e:TypeId} {z n dl c:Nat} {o:Bool} {x:AV} {a:Nat×Nat} {cs:List AV} (he:elemT E ts=some e) (hz:sizeT E e=some z) (hx:lenOf x=some n) (hc:firstCells K s z (min n dl) x=some cs) (hs:storeAt a cs s=some s') :
 bCopy ts [.slice (some a) dl c o,x] E K s=some (.val (lenInt (min n dl)) s'):=by
 unfold bCopy
 rw [he]
 show obind (sizeT E e) (fun z=>obind (some x) fun x=>obind (lenOf x) fun sl=>obind (some (AV.slice (some a) dl c o)) (copyV K z x sl s))=_
 rw [hz]
 show obind (lenOf x) (fun sl=>obind (some (AV.slice (some a) dl c o)) (copyV K z x sl s))=_
 rw [hx]
 show obind (firstCells K s z (min n dl) x) (fun cs=>omap (fun s=>Nx.val (lenInt (min n dl)) s) (storeAt a cs s))=_
 rw [hc]
 show omap (fun s=>Nx.val (lenInt (min n dl)) s) (storeAt a cs s)=_
 rw [hs]
 rfl
section
variable {E:Env} {rec:Rec} {all:List Oper} {p₁ p:FS}
theorem runOps_snoc:∀ {l:List Oper} {o:Oper} {fr:Fr} {s:St},runOps E rec K all l fr s=some p₁→runOp E rec K all o p₁.1 p₁.2=some p→runOps E rec K all (l ++ [o]) fr s=some p:=by
 intro l
 induction l with
 | nil =>
  intro o fr s h1 h2
  obtain rfl:(fr,s)=p₁:=Option.some.inj h1
  show obind (runOp E rec K all o fr s) (fun p=>some (p.1,p.2))=some p
  rw [h2]
  rfl
 | cons x l ih =>
  intro o fr s h1 h2
  obtain ⟨q,hq,h1⟩:=obind_some (show obind (runOp E rec K all x fr s) (fun p=>runOps E rec K all l p.1 p.2)=some p₁ from h1)
  show obind (runOp E rec K all x fr s) (fun p=>runOps E rec K all (l ++ [o]) p.1 p.2)=some p
  rw [hq]
  exact ih h1 h2
end
def zeros6:List AV:=[.int .i64 0,.str [],.slice none 0 0 false,.int .i64 0,.str [],.slice none 0 0 false]
def sA (n c:Nat):AV:=.slice (some (n,0)) 1 c false
def i64 (n:Int):AV:=.int .i64 n
def frS (n c:Nat) (v:AV):Fr:=⟨95,12,Tr.ofList [sA n c,i64 0,v],[]⟩
def vA (b:Nat×Nat) (cb:Nat) (ob:Bool):AV:=.slice (some b) 1 cb ob
def l8 (n c:Nat) (v:AV):List (Tmp×AV):=[(6,.slice none 0 0 false),(10,sA n c),(11,i64 0),(12,sA n c),(13,v),(14,i64 1),(7,i64 1),(15,i64 1),(16,.bool false),(18,sA n c),(19,i64 1),(8,i64 1),(20,i64 0),(21,i64 1),(22,.bool false)]
def lA9 (n k:Nat):List (Tmp×AV):=[(26,i64 1),(27,i64 1),(28,i64 2),(29,sA n 1),(30,i64 1),(31,.bool true),(32,sA n 1),(33,i64 0),(34,.slice (some (n,0)) 0 1 false),(35,i64 1),(36,i64 1),(37,i64 2),(38,i64 0),(39,i64 2),(40,openOn 2 k),(9,openOn 2 k)]
def lA10 (k:Nat) (v:AV):List (Tmp×AV):=[(41,openOn 2 k),(42,i64 0),(43,openOn 2 k),(44,v)]
def fA (n k:Nat) (v:AV) (l:List (Tmp×AV)):Fr:=pf (frS n 1 v) (l8 n 1 v ++ lA9 n k ++ lA10 k v ++ [(45,i64 1)] ++ l)
def lA11 (n k:Nat):List (Tmp×AV):=[(46,openOn 2 k),(47,i64 0),(48,i64 1),(49,i64 1),(50,.slice (some (k,3)) 1 1 true),(51,sA n 1),(52,i64 0),(53,sA n 1),(54,i64 1),(55,openOn 2 k),(6,openOn 2 k)]
def stA (k:Nat) (vs:List AV) (s:St):St:=setObj (newSt (.cells zeros6 198 0 false) s) k (.cells vs 198 0 false)
set_option maxRecDepth 100000 in
theorem ins_A (hN:EnvOk Tryz.prog env0) {n cb:Nat} {b:Nat×Nat} {ob:Bool} {o0 o1 o2 n0 n1 n2:AV} (hm:MemOk Tryz.prog ρ D K Pr s w) (hn:D n) (hb:D b.1)
 (hold:s.H.get n=some (.cells [o0,o1,o2] 198 0 false)) (hnew:cellsOn K s 3 b=some [n0,n1,n2]) (ho:∀ x∈[o0,o1,o2],x.one=true) (hn':∀ x∈[n0,n1,n2],x.one=true) :
 Calls Tryz.prog 730 ⟨toVs ρ [sA n 1,i64 0,vA b cb ob]⟩ w fun e w'=>∃ val ρ' D',e=.returned val∧Post Tryz.prog ρ D K Pr s w (openOn 2 s.k) ⟨s.H.set s.k (.cells [n0,n1,n2,o0,o1,o2] 198 0 false),s.k+1⟩ val w' ρ' D':=by
 have hk:n≠s.k:=fun e=>Nat.lt_irrefl _ (by have:=hm.dom _ hn;omega:s.k<s.k)
 have hkb:b.1≠s.k:=fun e=>Nat.lt_irrefl _ (by have:=hm.dom _ hb;omega:s.k<s.k)
 have hf0:FrOk Tryz.prog ρ D noX (frS n 1 (vA b cb ob)) { tmps:=(⟨toVs ρ [sA n 1,i64 0,vA b cb ob]⟩:Array Value) ++ Array.replicate (95 - (⟨toVs ρ [sA n 1,i64 0,vA b cb ob]⟩:Array Value).size) undef,defers:=[] }:=by
  have hfn:Tryz.f730.ntmps=95:=by kernel_rfl
  have:=enter_frame (P:=Tryz.prog) (E:=env0) (ρ:=ρ) (D:=D) hN (args:=[sA n 1,i64 0,vA b cb ob]) (fn:=Tryz.f730) (by rw [hfn];show 3≤95;omega) ⟨hn,trivial,hb,trivial⟩
  rw [hfn] at this
  exact this
 refine calls_of_wp_defers (fn:=Tryz.f730) (by kernel_rfl) (show Tryz.f730.body=some _ from rfl) ?_
 have hfn:Tryz.f730.ntmps=95:=by kernel_rfl
 rw [hfn]
 refine wp_seq (wp_plain hN callOk_no hm hf0 (p:=(pf (frS n 1 (vA b cb ob)) [(6,.slice none 0 0 false)],s)) (by kernel_rfl) fun a1 w1 ρ1 D1 h1=>?_)
 refine wp_seq (wp_plain hN callOk_no h1.mem h1.fr (p:=(pf (frS n 1 (vA b cb ob)) ((l8 n 1 (vA b cb ob)).take 4),s)) (by kernel_rfl) fun a2 w2 ρ2 D2 h2=>?_)
 refine wp_seq (wp_plain hN callOk_no h2.mem h2.fr (p:=(pf (frS n 1 (vA b cb ob)) ((l8 n 1 (vA b cb ob)).take 7),s)) (by kernel_rfl) fun a3 w3 ρ3 D3 h3=>?_)
 refine wp_seq (wp_seq (wp_plain hN callOk_no h3.mem h3.fr (p:=(pf (frS n 1 (vA b cb ob)) ((l8 n 1 (vA b cb ob)).take 9),s)) (by kernel_rfl) fun a4 w4 ρ4 D4 h4=>wp_cond_ev h4.mem h4.fr (t:=false) (by kernel_rfl) (wp_skip ?_)))
 refine wp_seq (wp_plain hN callOk_no h4.mem h4.fr (p:=(pf (frS n 1 (vA b cb ob)) ((l8 n 1 (vA b cb ob)).take 12),s)) (by kernel_rfl) fun a5 w5 ρ5 D5 h5=>?_)
 refine wp_seq (wp_seq (wp_plain hN callOk_no h5.mem h5.fr (p:=(pf (frS n 1 (vA b cb ob)) (l8 n 1 (vA b cb ob)),s)) (by kernel_rfl) fun a6 w6 ρ6 D6 h6=>wp_cond_ev h6.mem h6.fr (t:=false) (by kernel_rfl) (wp_skip ?_)))
 have h16:=((((h1.trans h2).trans h3).trans h4).trans h5).trans h6
 clear h1 h2 h3 h4 h5
 refine wp_seq (wp_seq (wp_plain hN callOk_no h16.mem h16.fr (p:=(pf (frS n 1 (vA b cb ob)) (l8 n 1 (vA b cb ob) ++ (lA9 n s.k).take 6),s)) (by kernel_rfl) fun a7 w7 ρ7 D7 h7=>wp_cond_ev h7.mem h7.fr (t:=true) (by kernel_rfl) ?_))
 refine wp_seq (wp_plain hN callOk_no h7.mem h7.fr (p:=(pf (frS n 1 (vA b cb ob)) (l8 n 1 (vA b cb ob) ++ lA9 n s.k),newSt (.cells zeros6 198 0 false) s)) (by kernel_rfl) fun a8 w8 ρ8 D8 h8=>?_)
 have h8':=(h16.trans h7).trans h8
 have hgk:(newSt (.cells zeros6 198 0 false) s).H.get s.k=some (.cells zeros6 198 0 false):=by rw [get_newSt,if_pos rfl]
 have hcp1:firstCells K (newSt (.cells zeros6 198 0 false) s) 3 (min 1 2) (vA b cb ob)=some [n0,n1,n2]:=by
  show cellsOn K (newSt (.cells zeros6 198 0 false) s) 3 b=_
  rw [← hnew]
  show obind (look K (newSt (.cells zeros6 198 0 false) s) b.1) (cellsFrom b.2 3)=obind (look K s b.1) (cellsFrom b.2 3)
  unfold look
  rw [get_newSt,if_neg hkb]
 have hst1:=storeAt_at (s:=newSt (.cells zeros6 198 0 false) s) (n:=s.k) (off:=0) hgk (Nat.le_refl _) (v:=n0) (new:=[n1,n2]) (by show 0+3≤6;omega) hn'
 have hcopy1:=copy_eq (E:=env0) (K:=K) (ts:=[161,161]) (o:=true) (c:=2) (dl:=2) (by kernel_rfl) (by kernel_rfl:sizeT env0 198=some 3) (by kernel_rfl:lenOf (vA b cb ob)=some 1) hcp1 hst1
 refine wp_seq (wp_plain hN callOk_no h8.mem h8.fr (p:=(pf (frS n 1 (vA b cb ob)) (l8 n 1 (vA b cb ob) ++ lA9 n s.k ++ lA10 s.k (vA b cb ob) ++ [(45,i64 1)]),setObj (newSt (.cells zeros6 198 0 false) s) s.k (.cells (putCells [n0,n1,n2] 0 zeros6) 198 0 false)))
  (runOps_snoc (l:=[_,_,_,_]) (p₁:=(pf (frS n 1 (vA b cb ob)) (l8 n 1 (vA b cb ob) ++ lA9 n s.k ++ lA10 s.k (vA b cb ob)),newSt (.cells zeros6 198 0 false) s)) (by kernel_rfl) ?_) fun a9 w9 ρ9 D9 h9=>?_)
 ·show obind (bCopy [161,161] [.slice (some (s.k,0)) 2 2 true,vA b cb ob] env0 K (newSt (.cells zeros6 198 0 false) s)) (afterNx no1 K (some 45) (pf (frS n 1 (vA b cb ob)) (l8 n 1 (vA b cb ob) ++ lA9 n s.k ++ lA10 s.k (vA b cb ob))))=_
  rw [hcopy1]
  kernel_rfl
 have h9':=h8'.trans h9
 clear h7 h8 h8' h16
 have hg2:(stA s.k (putCells [n0,n1,n2] 0 zeros6) s).H.get s.k=some (.cells (putCells [n0,n1,n2] 0 zeros6) 198 0 false):=by
  show (setObj _ s.k _).H.get s.k=_
  rw [get_setObj,if_pos rfl]
 have hcp2:firstCells K (stA s.k (putCells [n0,n1,n2] 0 zeros6) s) 3 (min 1 1) (sA n 1)=some [o0,o1,o2]:=by
  show obind (look K (stA s.k (putCells [n0,n1,n2] 0 zeros6) s) n) (cellsFrom 0 3)=_
  have:look K (stA s.k (putCells [n0,n1,n2] 0 zeros6) s) n=some (.cells [o0,o1,o2] 198 0 false):=by
   unfold look
   rw [show (stA s.k (putCells [n0,n1,n2] 0 zeros6) s).H.get n=(setObj (newSt (.cells zeros6 198 0 false) s) s.k (.cells (putCells [n0,n1,n2] 0 zeros6) 198 0 false)).H.get n from rfl,get_setObj,if_neg hk,get_newSt,if_neg hk,hold]
   rfl
  rw [this]
  rfl
 have hst2:=storeAt_at (s:=stA s.k (putCells [n0,n1,n2] 0 zeros6) s) (n:=s.k) (off:=3) hg2 (Nat.zero_le _) (v:=o0) (new:=[o1,o2]) (by show 3+3≤6;omega) ho
 have hcopy2:=copy_eq (E:=env0) (K:=K) (ts:=[161,161]) (o:=true) (c:=1) (dl:=1) (by kernel_rfl) (by kernel_rfl:sizeT env0 198=some 3) (by kernel_rfl:lenOf (sA n 1)=some 1) hcp2 hst2
 refine wp_seq (wp_any_of hN.mixed (S:=fun a' w'=>∃ ρ' D',Out Tryz.prog ρ9 D9 K Pr (stA s.k (putCells [n0,n1,n2] 0 zeros6) s) w9 noX (fA n s.k (vA b cb ob) ((lA11 n s.k).take 9)) (setObj (stA s.k (putCells [n0,n1,n2] 0 zeros6) s) s.k (.cells (putCells [o0,o1,o2] 3 (putCells [n0,n1,n2] 0 zeros6)) 198 0 false)) a' w' ρ' D') ?_ ?_)
 ·have hm9:=h9.mem.drawn (w9.drawn+1)
  have hT:=hN.toTysOk
  refine any_take (fuel:=8) (i:=0) (v:=openOn 2 s.k) (fr':=fA n s.k (vA b cb ob) ((lA11 n s.k).take 1)) hT hm9 h9.fr rfl (by kernel_rfl) (by kernel_rfl) (by kernel_rfl) rfl (by kernel_rfl) (by kernel_rfl) (fun c a w h=>by cases h.1) fun b0 f0=>?_
  refine any_take (fuel:=7) (i:=1) (v:=i64 0) (fr':=fA n s.k (vA b cb ob) ((lA11 n s.k).take 2)) hT hm9 f0 rfl (by kernel_rfl) (by kernel_rfl) (by kernel_rfl) rfl (by kernel_rfl) (by kernel_rfl) (fun c a w h=>by cases h.1) fun b1 f1=>?_
  refine any_take (fuel:=6) (i:=2) (v:=i64 1) (fr':=fA n s.k (vA b cb ob) ((lA11 n s.k).take 3)) hT hm9 f1 rfl (by kernel_rfl) (by kernel_rfl) (by kernel_rfl) rfl (by kernel_rfl) (by kernel_rfl) (fun c a w h=>by cases h.1) fun b2 f2=>?_
  refine any_take (fuel:=5) (i:=3) (v:=i64 1) (fr':=fA n s.k (vA b cb ob) ((lA11 n s.k).take 4)) hT hm9 f2 rfl (by kernel_rfl) (by kernel_rfl) (by kernel_rfl) rfl (by kernel_rfl) (by kernel_rfl) (fun c a w h=>by cases h.1) fun b3 f3=>?_
  refine any_take (fuel:=4) (i:=4) (v:=.slice (some (s.k,3)) 1 1 true) (fr':=fA n s.k (vA b cb ob) ((lA11 n s.k).take 5)) hT hm9 f3 rfl (by kernel_rfl) (by kernel_rfl) (by kernel_rfl) rfl (by kernel_rfl) (by kernel_rfl) (fun c a w h=>by cases h.1) fun b4 f4=>?_
  refine any_take (fuel:=3) (i:=5) (v:=sA n 1) (fr':=fA n s.k (vA b cb ob) ((lA11 n s.k).take 6)) hT hm9 f4 rfl (by kernel_rfl) (by kernel_rfl) (by kernel_rfl) rfl (by kernel_rfl) (by kernel_rfl) (fun c a w h=>by cases h.1) fun b5 f5=>?_
  refine any_take (fuel:=2) (i:=6) (v:=i64 0) (fr':=fA n s.k (vA b cb ob) ((lA11 n s.k).take 7)) hT hm9 f5 rfl (by kernel_rfl) (by kernel_rfl) (by kernel_rfl) rfl (by kernel_rfl) (by kernel_rfl) (fun c a w h=>by cases h.1) fun b6 f6=>?_
  refine any_take (fuel:=1) (i:=7) (v:=sA n 1) (fr':=fA n s.k (vA b cb ob) ((lA11 n s.k).take 8)) hT hm9 f6 rfl (by kernel_rfl) (by kernel_rfl) (by kernel_rfl) rfl (by kernel_rfl) (by kernel_rfl) (fun c a w h=>by cases h.1) fun b7 f7=>?_
  refine any_last (rec:=no1) (i:=8) (p:=(fA n s.k (vA b cb ob) ((lA11 n s.k).take 9),setObj (stA s.k (putCells [n0,n1,n2] 0 zeros6) s) s.k (.cells (putCells [o0,o1,o2] 3 (putCells [n0,n1,n2] 0 zeros6)) 198 0 false))) hN callOk_no hm9 f7 rfl (by kernel_rfl) (by kernel_rfl) rfl ?_ fun a' w' ρ' D' ho=>⟨rfl,ρ',D',ho.drawn⟩
  show obind (bCopy [161,161] [.slice (some (s.k,3)) 1 1 true,sA n 1] env0 K (stA s.k (putCells [n0,n1,n2] 0 zeros6) s)) (afterNx no1 K (some 54) (fA n s.k (vA b cb ob) ((lA11 n s.k).take 8)))=_
  rw [hcopy2]
  kernel_rfl
 ·rintro aA wA ⟨ρA,DA,hA⟩
  have hA':=h9'.trans hA
  refine wp_seq (wp_plain hN callOk_no hA.mem hA.fr (p:=(fA n s.k (vA b cb ob) (lA11 n s.k),setObj (stA s.k (putCells [n0,n1,n2] 0 zeros6) s) s.k (.cells (putCells [o0,o1,o2] 3 (putCells [n0,n1,n2] 0 zeros6)) 198 0 false))) (by kernel_rfl) fun aB wB ρB DB hB=>wp_ret ?_)
  have hZ:=hA'.trans hB
  refine ret_leaves (E:=env0) (vs:=[openOn 2 s.k]) hN.toTysOk hZ.mem hZ.fr (by kernel_rfl) (by kernel_rfl) fun hd=>?_
  refine ⟨_,ρB,DB,rfl,hZ.agree,hZ.grow,hZ.fresh,hZ.mem.congr (fun m=>?_) (Nat.le_refl _),hZ.keeps,rfl,hd,Nat.le_succ _⟩
  show (s.H.set s.k (.cells [n0,n1,n2,o0,o1,o2] 198 0 false)).get m=(setObj (setObj (newSt (.cells zeros6 198 0 false) s) s.k _) s.k (.cells (putCells [o0,o1,o2] 3 (putCells [n0,n1,n2] 0 zeros6)) 198 0 false)).H.get m
  rw [Tr.get_set,get_setObj,get_setObj,get_newSt]
  split <;> rfl
end
end Go.Ev
namespace Go.Ev
open Go.Proofs
noncomputable section
set_option maxRecDepth 100000
variable {ρ ρ':Ren} {D D':Dom} {K:Mem} {Pr:Nat→Prop} {s s':St} {w w':World} {fr:Fr}
theorem x790:ExtFn Tryz.prog 790 (Extern.SlicesOverlaps.overlaps Tryz.f790.params #[4]):=⟨⟨Tryz.f790,by kernel_rfl,by kernel_rfl,by kernel_rfl,by kernel_rfl,by kernel_rfl⟩⟩
def sB (n c:Nat):AV:=.slice (some (n,0)) 2 c false
def lB (n c:Nat) (v:AV):List (Tmp×AV):=[(26,i64 1),(27,i64 1),(28,i64 2),(29,sA n c),(30,lenInt c),(31,.bool false),(56,sA n c),(57,i64 1),(58,i64 1),(59,i64 2),(60,sB n c),(0,sB n c),
 (61,v),(62,sB n c),(63,i64 0),(64,i64 1),(65,i64 1),(66,.slice (some (n,3)) 1 (Nat.pred c) false),(67,.bool false),(68,.bool true),
 (69,sB n c),(70,i64 0),(71,i64 1),(72,i64 1),(73,.slice (some (n,3)) 1 (Nat.pred c) false),(74,sB n c),(75,i64 0),(76,sB n c)]
def fB (n t:Nat) (v:AV) (m:Nat):Fr:=pf (frS n (t+2) v) (l8 n (t+2) v ++ (lB n (t+2) v).take m)
set_option maxRecDepth 100000 in
def lBx (n k:Nat) (v:AV):List (Tmp×AV):=[(78,openOn 2 k),(79,i64 0),(80,openOn 2 k),(81,v),(82,i64 1),(83,openOn 2 k),(6,openOn 2 k)]
def fBx (n t k:Nat) (v:AV) (m:Nat):Fr:=pf (pf (fB n t v 28) [(77,i64 1),(0,openOn 2 k)]) ((lBx n k v).take m)
def stB (s:St) (n:Nat) (vs:List AV):St:=⟨(s.H.erase n).set s.k (.cells vs 198 0 false),s.k+1⟩
set_option maxHeartbeats 2000000 in
theorem ins_B (hN:EnvOk Tryz.prog env0) {n cb t:Nat} {b:Nat×Nat} {ob:Bool} {o0 o1 o2 n0 n1 n2:AV} (hm:MemOk Tryz.prog ρ D K Pr s w) (hn:D n) (hb:D b.1) (hnb:n≠b.1)
 (hold:s.H.get n=some (.cells [o0,o1,o2] 198 0 false)) (hnew:cellsOn K s 3 b=some [n0,n1,n2]) (ho:∀ x∈[o0,o1,o2],x.one=true) (hn':∀ x∈[n0,n1,n2],x.one=true) (ht:(ρ n).tail=t+1) :
 Calls Tryz.prog 730 ⟨toVs ρ [sA n (t+2),i64 0,vA b cb ob]⟩ w fun e w'=>∃ val ρ' D',e=.returned val∧Post Tryz.prog ρ D K Pr s w (openOn 2 s.k) ⟨(s.H.erase n).set s.k (.cells [n0,n1,n2,o0,o1,o2] 198 0 false),s.k+1⟩ val w' ρ' D':=by
 have hf0:FrOk Tryz.prog ρ D noX (frS n (t+2) (vA b cb ob)) { tmps:=(⟨toVs ρ [sA n (t+2),i64 0,vA b cb ob]⟩:Array Value) ++ Array.replicate (95 - (⟨toVs ρ [sA n (t+2),i64 0,vA b cb ob]⟩:Array Value).size) undef,defers:=[] }:=by
  have hfn:Tryz.f730.ntmps=95:=by kernel_rfl
  have:=enter_frame (P:=Tryz.prog) (E:=env0) (ρ:=ρ) (D:=D) hN (args:=[sA n (t+2),i64 0,vA b cb ob]) (fn:=Tryz.f730) (by rw [hfn];show 3≤95;omega) ⟨hn,trivial,hb,trivial⟩
  rw [hfn] at this
  exact this
 refine calls_of_wp_defers (fn:=Tryz.f730) (by kernel_rfl) (show Tryz.f730.body=some _ from rfl) ?_
 have hfn:Tryz.f730.ntmps=95:=by kernel_rfl
 rw [hfn]
 refine wp_seq (wp_plain hN callOk_no hm hf0 (p:=(pf (frS n (t+2) (vA b cb ob)) [(6,.slice none 0 0 false)],s)) (by kernel_rfl) fun a1 w1 ρ1 D1 h1=>?_)
 refine wp_seq (wp_plain hN callOk_no h1.mem h1.fr (p:=(pf (frS n (t+2) (vA b cb ob)) ((l8 n (t+2) (vA b cb ob)).take 4),s)) (by kernel_rfl) fun a2 w2 ρ2 D2 h2=>?_)
 refine wp_seq (wp_plain hN callOk_no h2.mem h2.fr (p:=(pf (frS n (t+2) (vA b cb ob)) ((l8 n (t+2) (vA b cb ob)).take 7),s)) (by kernel_rfl) fun a3 w3 ρ3 D3 h3=>?_)
 refine wp_seq (wp_seq (wp_plain hN callOk_no h3.mem h3.fr (p:=(pf (frS n (t+2) (vA b cb ob)) ((l8 n (t+2) (vA b cb ob)).take 9),s)) (by kernel_rfl) fun a4 w4 ρ4 D4 h4=>wp_cond_ev h4.mem h4.fr (t:=false) (by kernel_rfl) (wp_skip ?_)))
 refine wp_seq (wp_plain hN callOk_no h4.mem h4.fr (p:=(pf (frS n (t+2) (vA b cb ob)) ((l8 n (t+2) (vA b cb ob)).take 12),s)) (by kernel_rfl) fun a5 w5 ρ5 D5 h5=>?_)
 refine wp_seq (wp_seq (wp_plain hN callOk_no h5.mem h5.fr (p:=(fB n t (vA b cb ob) 0,s)) (by kernel_rfl) fun a6 w6 ρ6 D6 h6=>wp_cond_ev h6.mem h6.fr (t:=false) (by kernel_rfl) (wp_skip ?_)))
 have h16:=((((h1.trans h2).trans h3).trans h4).trans h5).trans h6
 clear h1 h2 h3 h4 h5 h6
 refine wp_seq (wp_seq (wp_plain hN callOk_no h16.mem h16.fr (p:=(fB n t (vA b cb ob) 6,s)) (by kernel_rfl) fun a7 w7 ρ7 D7 h7=>wp_cond_ev h7.mem h7.fr (t:=false) (by kernel_rfl) (wp_skip ?_)))
 refine wp_seq (wp_plain hN callOk_no h7.mem h7.fr (p:=(fB n t (vA b cb ob) 12,s)) (by kernel_rfl) fun a8 w8 ρ8 D8 h8=>?_)
 have h18:=(h16.trans h7).trans h8
 clear h7 h8 h16
 obtain ⟨ts,hts,hTs⟩:=elemT_ok (P:=Tryz.prog) (ts:=#[161,161]) hN.toTysOk (by kernel_rfl:elemT env0 [161,161]=some 198)
 obtain ⟨jz,hjz,hj3⟩:=sizeT_some (by kernel_rfl:sizeT env0 198=some 3)
 have hsz:∀ w,(sizeOf 198).run Tryz.prog w=.ok 3 w:=fun w=>by rw [run_sizeOf (hN.toTysOk.ty _ _ hjz) w,hj3]
 have hel:Tryz.prog.cellsOf 198=3:=by kernel_rfl
 refine wp_seq (wp_seq (wp_pre (rec:=no1) (E:=env0) hN callOk_no h18.mem h18.fr 6 2 rfl (p:=(fB n t (vA b cb ob) 18,s)) (by kernel_rfl) fun a9 w9 ρ9 D9 h9=>?_))
 have h19:=h18.trans h9
 clear h18 h9
 have hD9n:D9 n:=h19.grow n hn
 obtain ⟨_,hall,⟨c,fr,g1,g2,g3,g4,g5,g6⟩,g7⟩:=h19.mem.own n _ hold
 have ht9:(ρ9 n).tail=t+1:=by rw [h19.agree n hn];exact ht
 rw [hel,ht9] at g4 g5
 simp only [List.length_cons,List.length_nil] at g4 g5
 obtain ⟨bo,hbo,hbc⟩:=obind_some (show obind (look K s b.1) (cellsFrom b.2 3)=some [n0,n1,n2] from hnew)
 obtain ⟨bvs,be,bfrz,bsh,rfl,hbt⟩:=cellsFrom_some hbc
 obtain ⟨hbl,hbe⟩:=takeCells_some hbt
 obtain ⟨d1,d2,c',fr',k1,k2,k3,k4⟩:=h19.mem.look hbo
 have hblk:(ρ9 b.1).blk≠(ρ9 n).blk:=by
  rcases look_some hbo with h | ⟨_,h⟩
  ·exact h19.mem.inj b.1 n _ _ h hold (Ne.symm hnb)
  ·intro e
   exact g7 (e ▸ (h19.mem.rd b.1 _ h).2.2.2)
 have hov:=run_overlaps (P:=Tryz.prog) (w:=w9) (ps:=Tryz.f790.params) (rs:=#[4]) (t:=ts) (el:=198) (z:=3) (by rw [← hts];kernel_rfl) hTs hsz (b:=(ρ9 b.1).blk) (b':=(ρ9 n).blk) (off:=(ρ9 b.1).off+b.2) (off':=(ρ9 n).off+3) (la:=1) (ca:=cb+if ob then roomOf ρ9 (some b) else 0) (lb:=1) (cb:=t+1) k1 g1 hblk
  (g5 _ (by omega) (by omega)) (fun hx=>by rcases g6 rfl with e | e <;> omega) (by omega) (by omega)
 have hvs:(⟨toVs ρ9 [vA b cb ob,.slice (some (n,3)) 1 (t+1) false]⟩:Array Value)=#[.slice (some ⟨(ρ9 b.1).blk,(ρ9 b.1).off+b.2,none⟩) 1 (cb+if ob then roomOf ρ9 (some b) else 0),.slice (some ⟨(ρ9 n).blk,(ρ9 n).off+3,none⟩) 1 (t+1)]:=by kernel_rfl
 rw [← hvs] at hov
 show wpOps _ _ _ [6,7] _ _
 refine wpOps_at rfl rfl ?_
 refine (call_hand (v:=.bool false) (fr':=fB n t (vA b cb ob) 19) h19.mem h19.fr x790 rfl (vs:=[vA b cb ob,.slice (some (n,3)) 1 (t+1) false]) (by kernel_rfl) hov (Post.same h19.mem (v:=.bool false) trivial) (by kernel_rfl) fun a10 h10=>?_)
 refine wpOps_at rfl rfl (oper_ok (rec:=no1) (E:=env0) (p:=(fB n t (vA b cb ob) 20,s)) hN callOk_no h10.mem h10.fr (fun _ _ hX=>hX) (by kernel_rfl) fun a11 w11 ρ11 D11 h11=>?_)
 replace h11:=Out.noX h11
 refine wp_cond_ev h11.mem h11.fr (t:=true) (by kernel_rfl) ?_
 have hm11:=h11.mem.drawn (w11.drawn+1)
 have h1B:=(h19.trans h10).trans h11
 have hT:=hN.toTysOk
 have hD11n:D11 n:=h1B.grow n hn
 have ht11:(ρ11 n).tail=t+1:=by rw [h1B.agree n hn];exact ht
 obtain ⟨wc,hcr,hcp⟩:=copy_into_tail (c:=t+2) (ts:=#[161,161]) (ty:=3) hT hm11 hold hel (by kernel_rfl:sizeT env0 198=some 3) ht11 ho (by kernel_rfl)
 refine wp_seq (wp_any_of hN.mixed (S:=fun a' w'=>∃ ρ' D',w'=wc∧(ρ' s.k).tail=t∧Out Tryz.prog ρ11 D11 K Pr s w11 noX (pf (fB n t (vA b cb ob) 28) [(77,i64 1),(0,openOn 2 s.k)]) ⟨(s.H.erase n).set s.k (.cells [o0,o1,o2,o0,o1,o2] 198 0 false),s.k+1⟩ a' w' ρ' D') ?_ ?_)
 ·refine any_take (fuel:=8) (i:=0) (v:=sB n (t+2)) (fr':=fB n t (vA b cb ob) 21) hT hm11 h11.fr rfl (by kernel_rfl) (by kernel_rfl) (by kernel_rfl) rfl (by kernel_rfl) (by kernel_rfl) (fun c a w h=>by cases h.1) fun b0 f0=>?_
  refine any_take (fuel:=7) (i:=1) (v:=i64 0) (fr':=fB n t (vA b cb ob) 22) hT hm11 f0 rfl (by kernel_rfl) (by kernel_rfl) (by kernel_rfl) rfl (by kernel_rfl) (by kernel_rfl) (fun c a w h=>by cases h.1) fun b1 f1=>?_
  refine any_take (fuel:=6) (i:=2) (v:=i64 1) (fr':=fB n t (vA b cb ob) 23) hT hm11 f1 rfl (by kernel_rfl) (by kernel_rfl) (by kernel_rfl) rfl (by kernel_rfl) (by kernel_rfl) (fun c a w h=>by cases h.1) fun b2 f2=>?_
  refine any_take (fuel:=5) (i:=3) (v:=i64 1) (fr':=fB n t (vA b cb ob) 24) hT hm11 f2 rfl (by kernel_rfl) (by kernel_rfl) (by kernel_rfl) rfl (by kernel_rfl) (by kernel_rfl) (fun c a w h=>by cases h.1) fun b3 f3=>?_
  refine any_take (fuel:=4) (i:=4) (v:=.slice (some (n,3)) 1 (t+1) false) (fr':=fB n t (vA b cb ob) 25) hT hm11 f3 rfl (by kernel_rfl) (by kernel_rfl) (by kernel_rfl) rfl (by kernel_rfl) (by kernel_rfl) (fun c a w h=>by cases h.1) fun b4 f4=>?_
  refine any_take (fuel:=3) (i:=5) (v:=sB n (t+2)) (fr':=fB n t (vA b cb ob) 26) hT hm11 f4 rfl (by kernel_rfl) (by kernel_rfl) (by kernel_rfl) rfl (by kernel_rfl) (by kernel_rfl) (fun c a w h=>by cases h.1) fun b5 f5=>?_
  refine any_take (fuel:=2) (i:=6) (v:=i64 0) (fr':=fB n t (vA b cb ob) 27) hT hm11 f5 rfl (by kernel_rfl) (by kernel_rfl) (by kernel_rfl) rfl (by kernel_rfl) (by kernel_rfl) (fun c a w h=>by cases h.1) fun b6 f6=>?_
  refine any_take (fuel:=1) (i:=7) (v:=sB n (t+2)) (fr':=fB n t (vA b cb ob) 28) hT hm11 f6 rfl (by kernel_rfl) (by kernel_rfl) (by kernel_rfl) rfl (by kernel_rfl) (by kernel_rfl) (fun c a w h=>by cases h.1) fun b7 f7=>?_
  refine any_hand (i:=8) rfl (by kernel_rfl) (by kernel_rfl) rfl (fun N hN'=>?_) (fun a' w' h=>⟨rfl,h⟩)
  refine copy_hand (fr':=pf (fB n t (vA b cb ob) 28) [(77,i64 1)]) hm11 f7 rfl (vs:=[.slice (some (n,3)) 1 (t+1) false,.slice (some (n,0)) 2 (t+2) false]) (by kernel_rfl) hcr hcp (by kernel_rfl) fun a' h12=>?_
  have h13:=h12.drawn
  refine hN' _ _ ⟨_,_,rfl,by rw [upd_same],h13.agree,h13.grow,h13.fresh,h13.mem,h13.keeps,h13.le,h13.fr.retell (d:=0) (v:=openOn 2 s.k) ?_ (.inr rfl)⟩
  have:(upd ρ11 s.k ⟨(ρ11 n).blk,(ρ11 n).off,t⟩) n=ρ11 n:=h13.agree n hD11n
  show Value.slice (some ⟨((upd ρ11 s.k ⟨(ρ11 n).blk,(ρ11 n).off,t⟩) n).blk,((upd ρ11 s.k ⟨(ρ11 n).blk,(ρ11 n).off,t⟩) n).off+0,none⟩) 2 (t+2+0)=Value.slice (some ⟨((upd ρ11 s.k ⟨(ρ11 n).blk,(ρ11 n).off,t⟩) s.k).blk,((upd ρ11 s.k ⟨(ρ11 n).blk,(ρ11 n).off,t⟩) s.k).off+0,none⟩) 2 (2+((upd ρ11 s.k ⟨(ρ11 n).blk,(ρ11 n).off,t⟩) s.k).tail)
  rw [this,upd_same]
  show Value.slice _ 2 (t+2+0)=Value.slice _ 2 (2+t)
  rw [show t+2+0=2+t from by omega]
 ·rintro a12 w12 ⟨ρ12,D12,rfl,ht12,h12⟩
  have h1C:=h1B.trans h12
  have hks:n≠s.k:=fun e=>Nat.lt_irrefl _ (by have:=hm.dom _ hn;omega:s.k<s.k)
  have hkb:b.1≠s.k:=fun e=>Nat.lt_irrefl _ (by have:=hm.dom _ hb;omega:s.k<s.k)
  have hcp1:firstCells K (stB s n [o0,o1,o2,o0,o1,o2]) 3 (min 1 2) (vA b cb ob)=some [n0,n1,n2]:=by
   show cellsOn K (stB s n [o0,o1,o2,o0,o1,o2]) 3 b=_
   rw [← hnew]
   show obind (look K (stB s n [o0,o1,o2,o0,o1,o2]) b.1) (cellsFrom b.2 3)=obind (look K s b.1) (cellsFrom b.2 3)
   unfold look stB
   rw [Tr.get_set,if_neg hkb,Tr.get_erase,if_neg (Ne.symm hnb)]
  have hgk:(stB s n [o0,o1,o2,o0,o1,o2]).H.get s.k=some (.cells [o0,o1,o2,o0,o1,o2] 198 0 false):=by
   unfold stB
   rw [Tr.get_set,if_pos rfl]
  have hst1:=storeAt_at (s:=stB s n [o0,o1,o2,o0,o1,o2]) (n:=s.k) (off:=0) hgk (Nat.le_refl _) (v:=n0) (new:=[n1,n2]) (by show 0+3≤6;omega) hn'
  have hcopy1:=copy_eq (E:=env0) (K:=K) (ts:=[161,161]) (o:=true) (c:=2) (dl:=2) (by kernel_rfl) (by kernel_rfl:sizeT env0 198=some 3) (by kernel_rfl:lenOf (vA b cb ob)=some 1) hcp1 hst1
  refine wp_seq (wp_plain hN callOk_no h12.mem h12.fr (p:=(fBx n t s.k (vA b cb ob) 5,setObj (stB s n [o0,o1,o2,o0,o1,o2]) s.k (.cells (putCells [n0,n1,n2] 0 [o0,o1,o2,o0,o1,o2]) 198 0 false)))
   (runOps_snoc (l:=[_,_,_,_]) (p₁:=(fBx n t s.k (vA b cb ob) 4,stB s n [o0,o1,o2,o0,o1,o2])) (by kernel_rfl) ?_) fun a13 w13 ρ13 D13 h13=>?_)
  ·show obind (bCopy [161,161] [.slice (some (s.k,0)) 2 2 true,vA b cb ob] env0 K (stB s n [o0,o1,o2,o0,o1,o2])) (afterNx no1 K (some 82) (fBx n t s.k (vA b cb ob) 4))=_
   rw [hcopy1]
   kernel_rfl
  refine wp_seq (wp_plain hN callOk_no h13.mem h13.fr (p:=(fBx n t s.k (vA b cb ob) 7,setObj (stB s n [o0,o1,o2,o0,o1,o2]) s.k (.cells (putCells [n0,n1,n2] 0 [o0,o1,o2,o0,o1,o2]) 198 0 false))) (by kernel_rfl) fun a14 w14 ρ14 D14 h14=>wp_ret ?_)
  have hZ:=(h1C.trans h13).trans h14
  refine ret_leaves (E:=env0) (vs:=[openOn 2 s.k]) hT hZ.mem hZ.fr (by kernel_rfl) (by kernel_rfl) fun hd=>?_
  refine ⟨_,ρ14,D14,rfl,hZ.agree,hZ.grow,hZ.fresh,hZ.mem.congr (fun m=>?_) (Nat.le_refl _),hZ.keeps,rfl,hd,Nat.le_succ _⟩
  show ((s.H.erase n).set s.k (.cells [n0,n1,n2,o0,o1,o2] 198 0 false)).get m=(setObj (stB s n [o0,o1,o2,o0,o1,o2]) s.k _).H.get m
  rw [get_setObj]
  unfold stB
  rw [Tr.get_set,Tr.get_set]
  split <;> rfl
end
end Go.Ev
namespace Go.Ev
open Go.Proofs
noncomputable section
set_option maxRecDepth 100000
theorem len3 {α:Type} {l:List α} (h:l.length=3):∃ a b c,l=[a,b,c]:=by
 match l,h with
 | [a,b,c],_=>exact ⟨a,b,c,rfl⟩
theorem xInsert_ok (hN:EnvOk Tryz.prog env0) {E:Env} (hE:E.ty=tyT):ExtOk Tryz.prog E 730 (.insert 198):=by
 intro ρ D K Pr s w args nx hm hd h
 obtain ⟨d,i,v,rfl,h⟩:=args3_some h
 obtain ⟨j,hj,h⟩:=obind_some h
 obtain ⟨dd,hdd,h⟩:=obind_some h
 obtain ⟨vv,hvv,h⟩:=obind_some h
 obtain ⟨a,ha,h⟩:=obind_some h
 obtain ⟨b,hb,h⟩:=obind_some h
 obtain ⟨hc,h⟩:=grd_some h
 obtain ⟨old,hold,h⟩:=obind_some h
 obtain ⟨new,hnew,h⟩:=obind_some h
 obtain ⟨ho,h⟩:=grd_some h
 obtain rfl:=Option.some.inj h
 obtain ⟨jz,hjz,hj3⟩:=sizeT_some (by kernel_rfl:sizeT env0 198=some 3)
 have hjj:jz=j:=by
  have h1:tyT.get 198=some j:=by rw [← hE];exact hj
  have h2:tyT.get 198=some jz:=hjz
  rw [h1] at h2
  exact (Option.some.inj h2).symm
 subst hjj
 rw [hj3] at hold hnew
 obtain ⟨da,dl,dc,dop,rfl⟩:∃ da dl dc dop,d=.slice da dl dc dop:=by
  cases d <;> first | exact ⟨_,_,_,_,rfl⟩ | cases hdd
 obtain ⟨va,vl,vc,vop,rfl⟩:∃ da dl dc dop,v=.slice da dl dc dop:=by
  cases v <;> first | exact ⟨_,_,_,_,rfl⟩ | cases hvv
 obtain rfl:=Option.some.inj hdd
 obtain rfl:=Option.some.inj hvv
 have ha:da=some a:=ha
 have hb:va=some b:=hb
 subst ha hb
 rw [band_eq,Bool.and_eq_true] at hc
 obtain ⟨hi,hc⟩:=hc
 have hc:band (Nat.beq dl 1) (band (Nat.beq dc 1) (band dop (band (Nat.beq a.2 0) (band (Nat.beq vl 1) (bnot (Nat.beq a.1 b.1))))))=true:=hc
 simp only [band_eq,Bool.and_eq_true,nbeq_eq,decide_eq_true_eq,bnot_eq] at hc
 obtain ⟨rfl,rfl,rfl,ha0,rfl,hne⟩:=hc
 obtain ⟨n,off⟩:=a
 obtain rfl:off=0:=ha0
 have hne:n≠b.1:=by simpa using hne
 have hi:i=i64 0:=by
  unfold isI0 at hi
  cases hx:i.asInt with
  | none=>rw [hx] at hi;cases hi
  | some p =>
   rw [hx] at hi
   have hi:band (kindEq p.1 .i64) (ieq p.2 0)=true:=hi
   rw [band_eq,Bool.and_eq_true,kindEq_eq,ieq_eq,decide_eq_true_eq,decide_eq_true_eq] at hi
   rw [asInt_some hx,hi.1,hi.2]
   rfl
 subst hi
 obtain ⟨oo,hoo,hold⟩:=obind_some hold
 have hoo:s.H.get n=some oo:=hoo
 obtain ⟨vs,rfl,rfl,hl3⟩:∃ vs,oo=.cells vs 198 0 false∧vs=old∧vs.length=3:=by
  cases oo with
  | cells vs e frz sh =>
   obtain ⟨hq,hr⟩:=grd_some (show grd (band (Nat.beq e 198) (band (Nat.beq frz 0) (band (bnot sh) (Nat.beq (llen vs) 3)))) (some vs)=some old from hold)
   simp only [band_eq,Bool.and_eq_true,nbeq_eq,decide_eq_true_eq,bnot_eq,llen_eq,Bool.not_eq_true'] at hq
   obtain ⟨rfl,rfl,rfl,hq⟩:=hq
   exact ⟨vs,rfl,Option.some.inj hr,hq⟩
  | _=>cases hold
 obtain ⟨o0,o1,o2,rfl⟩:=len3 hl3
 have hnl:new.length=3:=by
  obtain ⟨bo,hbo,hbc⟩:=obind_some (show obind (look K s b.1) (cellsFrom b.2 3)=some new from hnew)
  obtain ⟨bvs,be,bfrz,bsh,rfl,hbt⟩:=cellsFrom_some hbc
  obtain ⟨hbl,rfl⟩:=takeCells_some hbt
  simp
  omega
 obtain ⟨n0,n1,n2,rfl⟩:=len3 hnl
 rw [band_eq,Bool.and_eq_true,lall_iff,lall_iff] at ho
 have hDn:D n:=hd.1
 have hDb:D b.1:=hd.2.2.1
 obtain ⟨f1,f2,f3⟩:Tryz.prog.funcs[730]? = some Tryz.f730∧(Tryz.f730.name == "runtime.NumGoroutine")=false∧Tryz.f730.body.isNone=false:=⟨by kernel_rfl,by kernel_rfl,by kernel_rfl⟩
 refine ⟨_,_,rfl,.inr ⟨730,_,run_callFunc f1 f2 f3 w,?_⟩⟩
 cases ht:(ρ n).tail with
 | zero =>
  have ha:(⟨toVs ρ [.slice (some (n,0)) 1 1 true,i64 0,.slice (some b) 1 vc vop]⟩:Array Value)=⟨toVs ρ [sA n 1,i64 0,vA b vc vop]⟩:=by
   have:(AV.slice (some (n,0)) 1 1 true).toV ρ=(sA n 1).toV ρ:=by
    show Value.slice _ 1 (1+(ρ n).tail)=Value.slice _ 1 (1+0)
    rw [ht]
   simp only [toVs,this,vA]
  rw [ha]
  refine (ins_A hN hm hDn hDb hoo hnew ho.2 ho.1).mono fun e w' he=>?_
  obtain ⟨val,ρ',D',rfl,hp⟩:=he
  have hks:n≠s.k:=fun e=>Nat.lt_irrefl _ (by have:=hm.dom _ hDn;omega:s.k<s.k)
  refine ⟨val,ρ',D',rfl,hp.agree,hp.grow,hp.fresh,(hp.mem.drop n).congr (fun m=>?_) (Nat.le_refl _),hp.keeps,hp.val,hp.inD,hp.le⟩
  show ((s.H.erase n).set s.k (.cells [n0,n1,n2,o0,o1,o2] 198 0 false)).get m=((s.H.set s.k (.cells [n0,n1,n2,o0,o1,o2] 198 0 false)).erase n).get m
  rw [Tr.get_set,Tr.get_erase,Tr.get_erase,Tr.get_set]
  by_cases e1:m=s.k
  ·rw [if_pos e1,if_neg (fun (e:m=n)=>hks (e.symm.trans e1)),if_pos e1]
  ·rw [if_neg e1,if_neg e1]
 | succ t =>
  have ha:(⟨toVs ρ [.slice (some (n,0)) 1 1 true,i64 0,.slice (some b) 1 vc vop]⟩:Array Value)=⟨toVs ρ [sA n (t+2),i64 0,vA b vc vop]⟩:=by
   have:(AV.slice (some (n,0)) 1 1 true).toV ρ=(sA n (t+2)).toV ρ:=by
    show Value.slice _ 1 (1+(ρ n).tail)=Value.slice _ 1 (t+2+0)
    rw [ht,show 1+(t+1)=t+2+0 from by omega]
   simp only [toVs,this,vA]
  rw [ha]
  exact (ins_B hN hm hDn hDb hne hoo hnew ho.2 ho.1 ht).mono fun e w' he=>he
end
end Go.Ev
namespace Go.Ev
open Go.Proofs
noncomputable section
set_option maxRecDepth 100000
def extList:List (Nat×Ext):=[(156,.same),(157,(.makeNoZero 5)),(164,.count),(165,(.index 2)),(401,.indexByte),(628,.cmp),(730,(.insert 198)),(847,(.atomLoad .u32)),(877,.atomStore),(909,(.mark false)),(910,(.atomCas .i32)),(911,(.mark false)),(912,(.mark true)),(914,(.mark true)),(915,(.atomAdd .i32))]
def fnT:Tr Func:=Tr.ofList Tryz.funcs.toList
def setAll {α:Type} (l:List (Nat×α)):Tr α:=@List.rec (Nat×α) (fun _=>Tr α) .leaf (fun p _ t=>t.set p.1 p.2) l
def extT:Tr Ext:=setAll extList
def dxT:Tr Nat:=(Tr.leaf:Tr Nat).set 593 1
def env:Env:={ ty:=tyT,fn:=fnT,ext:=extT,gl:=12,dx:=dxT }
theorem setAll_mem {α:Type} (l:List (Nat×α)) (f:Nat) (x:α) (h:(setAll l).get f=some x):(f,x)∈l:=by
 induction l with
 | nil=>cases h
 | cons p l ih =>
  have h:((setAll l).set p.1 p.2).get f=some x:=h
  rw [Tr.get_set] at h
  split at h
  ·rename_i e
   rw [e,← Option.some.inj h]
   exact List.mem_cons_self
  ·exact List.mem_cons_of_mem _ (ih h)
theorem tysOk {E:Env} (hE:E.ty=tyT):TysOk Tryz.prog E:=tys_ok (bad:=badTy) hE kty
theorem env0Ok:EnvOk Tryz.prog env0 :=
 { ty:=(tysOk rfl).ty,gl:=glsz.symm,fn:=fun f fn h=>(by cases h),ext:=fun f x h=>(by cases h),dx:=fun f n h=>(by cases h),mixed:=mixed }
theorem envOk (hc:∀ (s sub:ByteArray) (m:Int) (w:World),s.size<4294967281→w.cell? ⟨2,0,none⟩=some (.int .i64 m)→Calls Tryz.prog 165 #[.string s,.string sub] w fun e w'=>e=.returned (.int .i64 (Lib.index s.data.toList sub.data.toList))∧w'=w):EnvOk Tryz.prog env :=
 { ty:=(tysOk rfl).ty,gl:=glsz.symm,
   fn:=fun f fn h=>by
    have h:(Tr.ofList Tryz.funcs.toList).get f=some fn:=h
    rw [Tr.get_ofList] at h
    refine ⟨by rw [← h];exact (Array.getElem?_toList).symm,?_⟩
    have hm:=List.mem_of_getElem? h
    have:=(lall_iff _ _).1 nums fn hm
    rw [bnot_eq,Bool.not_eq_true'] at this
    exact this
   ext:=fun f x h=>by
    have h:=setAll_mem extList f x h
    simp only [extList,List.mem_cons,List.not_mem_nil,or_false,Prod.mk.injEq] at h
    rcases h with ⟨rfl,rfl⟩ | ⟨rfl,rfl⟩ | ⟨rfl,rfl⟩ | ⟨rfl,rfl⟩ | ⟨rfl,rfl⟩ | ⟨rfl,rfl⟩ | ⟨rfl,rfl⟩ | ⟨rfl,rfl⟩ | ⟨rfl,rfl⟩ | ⟨rfl,rfl⟩ | ⟨rfl,rfl⟩ | ⟨rfl,rfl⟩ | ⟨rfl,rfl⟩ | ⟨rfl,rfl⟩ | ⟨rfl,rfl⟩
    ·exact xSame_ok x156
    ·exact xMakeNoZero_ok u91 e5 x157
    ·exact xCount_ok x164
    ·exact xIndex_ok (by rw [glsz];omega) ⟨Tryz.f165,by kernel_rfl,by kernel_rfl,by kernel_rfl⟩ hc
    ·exact xIndexByte_ok x401
    ·exact xCmp_ok x628
    ·exact xInsert_ok env0Ok rfl
    ·exact xAtomLoad_ok x847
    ·exact xAtomStore_ok x877
    ·exact xMark_ok x909
    ·exact xAtomCas_ok x910
    ·exact xMark_ok x911
    ·exact xMarked_ok x912
    ·exact xMarked_ok x914
    ·exact xAtomAdd_ok x915
   dx:=fun f n h=>by
    have h:((Tr.leaf:Tr Nat).set 593 1).get f=some n:=h
    rw [Tr.get_set] at h
    split at h
    ·rename_i e
     subst e
     obtain rfl:=Option.some.inj h
     exact dx_ok (tysOk (E:=env) rfl) (fn:=Tryz.f593) (by kernel_rfl) (by kernel_rfl) rfl (Nat.le_of_ble_eq_true (by kernel_rfl)) rfl (by kernel_rfl)
    ·cases h
   mixed:=mixed }
end
end Go.Ev
