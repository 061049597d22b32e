/- A part of the proof: EvSilD, EvSilE, EvSilF, EvSilG -/
import Derived.Test.YtimfnccfnefajaaGreatDoorVEvB
import Derived.Laws.IdiomStrings
set_option linter.unusedSimpArgs false
set_option linter.unusedVariables false
namespace Go.Ev
section
variable {P:Program} {E:Env} {ρ:Ren} {D:Dom} {fr:Fr} {ev:Operand→Value}
theorem adr_add (a:Nat×Nat) (j:Nat):(adr ρ a).add j=⟨(ρ a.1).blk,(ρ a.1).off+a.2+j,none⟩:=by rw [adr,Addr.add_lit]
theorem rd_cell {w:World} {n:Nat} {vs:List AV} {e:TypeId} {frz:Nat} {sh:Bool} (h:Rd P ρ w n (.cells vs e frz sh)) {i:Nat} {v:AV} (hv:vs[i]? = some v):w.cell? ⟨(ρ n).blk,(ρ n).off+i,none⟩=some (v.toV ρ):=by
 obtain ⟨c,fr,h1,h2,_⟩:=h
 rw [cell_of_row w _ _ c e fr h1]
 exact h2 i v hv
theorem rd_loadCells {w:World} {n:Nat} {vs r:List AV} {e:TypeId} {frz off m:Nat} {sh:Bool} (h:Rd P ρ w n (.cells vs e frz sh)) (hr:takeCells vs off m=some r):(loadCells (adr ρ (n,off)) m).run P w=.ok ⟨toVs ρ r⟩ w:=by
 obtain ⟨h1,rfl⟩:=takeCells_some hr
 have hl:(toVs ρ ((vs.drop off).take m)).length=m:=by rw [toVs_length];simp;omega
 have:=run_loadCells_list (P:=P) w (adr ρ (n,off)) (toVs ρ ((vs.drop off).take m)) (fun j v hj=>by
  rw [adr_add]
  rw [toVs_eq,List.getElem?_map,Option.map_eq_some_iff] at hj
  obtain ⟨u,hu,rfl⟩:=hj
  rw [List.getElem?_take] at hu
  split at hu
  ·rw [List.getElem?_drop] at hu
   rw [Nat.add_assoc]
   exact rd_cell h hu
  ·cases hu)
 rw [hl] at this
 exact this
theorem run_loadVar {t:TypeId} {i:TI} (hT:TyOk P t i) {n off:Nat} {ob:AObj} {v:AV} (hv:loadObj off i ob=some v) (hd:ob.inD D) :
 v.inD D∧∀ w,Rd P ρ w n ob→(loadVar t (adr ρ (n,off))).run P w=.ok (v.toV ρ) w:=by
 cases ob with
 | map=>cases hv
 | siter=>cases hv
 | cells vs e frz sh =>
  have hv:partBy vs off i=some v:=hv
  unfold partBy at hv
  rw [sw_eq] at hv
  cases ha:i.uk.isAgg with
  | true =>
   rw [ha] at hv
   obtain ⟨r,hr,rfl⟩:=omap_some hv
   obtain ⟨_,_,_,h4⟩:=takeCells_ok (ρ:=ρ) (D:=D) hr
   refine ⟨h4 hd,fun w hw=>?_⟩
   have hne:i.uk≠.other:=by intro e;rw [e] at ha;cases ha
   simp only [loadVar,Sem.run_bind,run_isAgg hT hne,ha,Result.andThen_ok,if_true,run_sizeOf hT,rd_loadCells hw hr,Sem.run_pure]
   rfl
  | false =>
   rw [ha] at hv
   obtain ⟨ho,hv⟩:=grd_some hv
   rw [lget_eq] at hv
   refine ⟨allIn_get hd hv,fun w hw=>?_⟩
   have hne:i.uk≠.other:=by intro e;rw [e] at ho;cases ho
   have hc:=rd_cell hw hv
   simp only [loadVar,Sem.run_bind,run_isAgg hT hne,ha,Result.andThen_ok,if_false,Bool.false_eq_true,run_load]
   simp only [adr,hc]
theorem sLoad_ok (hE:TysOk P E) {t:TypeId} {x:Operand} {s:Sil} (hs:Sees ρ D fr ev [x]) (h:sLoad t x E fr=some s):SilV P ρ D (Instr.loadAt t (ev x)) s:=by
 obtain ⟨i,hi,h⟩:=obind_some h
 obtain ⟨a,ha,h⟩:=obind_some h
 obtain ⟨u,hu,ha⟩:=obind_some ha
 obtain rfl:=asPtr_some ha
 obtain rfl:=Option.some.inj h
 obtain ⟨h1,h2⟩:=hs x (by simp) _ hu
 refine ⟨h2,fun ob v hob hv=>?_⟩
 obtain ⟨h3,h4⟩:=run_loadVar (ρ:=ρ) (n:=a.1) (hE.ty _ _ hi) hv hob
 refine ⟨h3,fun w hw=>?_⟩
 rw [h1]
 simp only [Instr.loadAt,AV.toV,Option.map_some,Instr.sureAddr,Sem.run_bind,Sem.run_pure,Result.andThen_ok]
 exact h4 w hw
theorem run_fieldPlace (hE:TysOk P E) {f:Field} {z:Nat} (hz:sizeT E f.type=some z) (h0:z≠0) (a:Addr) (w:World):(Go.fieldPlace a f).run P w=.ok (a.add f.offset) w:=by
 obtain ⟨j,hj,rfl⟩:=sizeT_some hz
 simp [Go.fieldPlace,run_sizeOf (hE.ty _ _ hj),h0]
theorem fieldT_ok (hE:TysOk P E) {t:TypeId} {f:Nat} {fd:Nat×TypeId} (h:fieldT E t f=some fd):∃ fs g,P.underlying t=some (.struct fs)∧fs[f]? = some g∧fd=(g.offset,g.type):=by
 obtain ⟨p,hp,h⟩:=obind_some h
 obtain ⟨u,hu,hp⟩:=obind_some hp
 obtain ⟨i,hi,rfl⟩:=ukT_some hu
 obtain ⟨fs,h1,h2,_⟩:=uk_struct (hE.ty _ _ hi) hp
 rw [lget_eq,h2,List.getElem?_map,Option.map_eq_some_iff] at h
 obtain ⟨g,hg,rfl⟩:=h
 exact ⟨fs,g,h1,by simpa using hg,rfl⟩
theorem adr_plus (a:Nat×Nat) (m:Nat):(adr ρ a).add m=adr ρ (a.1,a.2+m):=by rw [adr_add];simp [adr,Nat.add_assoc]
theorem sFieldAddr_ok (hE:TysOk P E) {t:TypeId} {x:Operand} {f:Nat} {s:Sil} (hs:Sees ρ D fr ev [x]) (h:sFieldAddr t x f E fr=some s):SilV P ρ D (Instr.fieldAt t (ev x) f) s:=by
 obtain ⟨fd,hfd,h⟩:=obind_some h
 obtain ⟨a,ha,h⟩:=obind_some h
 obtain ⟨v,hv,rfl⟩:=sv_some h
 obtain ⟨u,hu,ha⟩:=obind_some ha
 obtain rfl:=asPtr_some ha
 obtain ⟨h1,h2⟩:=hs x (by simp) _ hu
 obtain ⟨fs,g,h3,h4,rfl⟩:=fieldT_ok hE hfd
 obtain ⟨z,hz,hv⟩:=obind_some hv
 obtain ⟨h0,hv⟩:=grd_some hv
 obtain rfl:=Option.some.inj hv
 have hz0:z≠0:=by rw [bnot_eq,nbeq_eq] at h0;simpa using h0
 refine ⟨h2,fun w=>?_⟩
 rw [h1]
 simp only [Instr.fieldAt,Sem.run_bind,run_underlying h3,Result.andThen_ok,h4,AV.toV,Option.map_some,Instr.sureAddr,Sem.run_pure,run_fieldPlace hE hz hz0,adr_plus]
 rfl
theorem run_part (hE:TysOk P E) {t:TypeId} {cs:List AV} {off:Nat} {v:AV} (h:part E t cs off=some v) (hd:allIn D cs):v.inD D∧∀ w:World,(Go.part t ⟨toVs ρ cs⟩ off).run P w=.ok (v.toV ρ) w:=by
 obtain ⟨i,hi,hv⟩:=obind_some h
 have hT:=hE.ty _ _ hi
 unfold partBy at hv
 rw [sw_eq] at hv
 cases ha:i.uk.isAgg with
 | true =>
  rw [ha] at hv
  obtain ⟨r,hr,rfl⟩:=omap_some hv
  obtain ⟨h1,h2,h3,h4⟩:=takeCells_ok (ρ:=ρ) (D:=D) hr
  refine ⟨h4 hd,fun w=>?_⟩
  have hne:i.uk≠.other:=by intro e;rw [e] at ha;cases ha
  simp only [Go.part,Sem.run_bind,run_isAgg hT hne,ha,Result.andThen_ok,if_true,run_sizeOf hT,Sem.run_pure,AV.toV,h2]
  congr 2
  apply Array.ext'
  simp [List.extract_eq_take_drop,Nat.add_sub_cancel_left]
 | false =>
  rw [ha] at hv
  obtain ⟨ho,hv⟩:=grd_some hv
  rw [lget_eq] at hv
  refine ⟨allIn_get hd hv,fun w=>?_⟩
  have hne:i.uk≠.other:=by intro e;rw [e] at ho;cases ho
  have hc:(Array.mk (toVs ρ cs))[off]? = some (v.toV ρ):=by simpa using toVs_get (ρ:=ρ) hv
  simp only [Go.part,Sem.run_bind,run_isAgg hT hne,ha,Result.andThen_ok,if_false,Bool.false_eq_true,hc,Sem.run_pure]
theorem sField_ok (hE:TysOk P E) {t:TypeId} {x:Operand} {f:Nat} {s:Sil} (hs:Sees ρ D fr ev [x]) (h:sField t x f E fr=some s):SilV P ρ D (Instr.field t (ev x) f) s:=by
 obtain ⟨fd,hfd,h⟩:=obind_some h
 obtain ⟨cs,ha,h⟩:=obind_some h
 obtain ⟨v,hv,rfl⟩:=sv_some h
 obtain ⟨u,hu,ha⟩:=obind_some ha
 obtain rfl:=asAgg_some ha
 obtain ⟨h1,h2⟩:=hs x (by simp) _ hu
 obtain ⟨fs,g,h3,h4,rfl⟩:=fieldT_ok hE hfd
 obtain ⟨h5,h6⟩:=run_part (ρ:=ρ) hE hv h2
 refine ⟨h5,fun w=>?_⟩
 rw [h1]
 simp only [Instr.field,Sem.run_bind,run_underlying h3,Result.andThen_ok,h4,AV.toV,asAgg,Sem.run_pure,h6]
theorem idxPtr_ok {z len q:Nat} {a:Nat×Nat} {v:AV} (h:idxPtr z len q a=some v):q<len∧v=.ptr (some (a.1,a.2+q * z)):=by
 obtain ⟨h1,h⟩:=grd_some h
 rw [nlt_eq] at h1
 exact ⟨by simpa using h1,(Option.some.inj h).symm⟩
theorem sIndexAddr_ok (hE:TysOk P E) {t:TypeId} {x ix:Operand} {s:Sil} (hs:Sees ρ D fr ev [x,ix]) (h:sIndexAddr t x ix E fr=some s):SilV P ρ D (Instr.indexAt t (ev x) (ev ix)) s:=by
 obtain ⟨u,hu,h⟩:=obind_some h
 obtain ⟨xv,hx,h⟩:=obind_some h
 obtain ⟨q,hq,h⟩:=obind_some h
 obtain ⟨v,hv,rfl⟩:=sv_some h
 obtain ⟨iv,hiv,hq⟩:=obind_some hq
 obtain ⟨k,rfl⟩:=asNat_some hq
 obtain ⟨i,hi,rfl⟩:=ukT_some hu
 have hT:=hE.ty _ _ hi
 obtain ⟨h1,h2⟩:=hs x (by simp) _ hx
 obtain ⟨h3,_⟩:=hs ix (by simp) _ hiv
 cases xv with
 | ptr a =>
  have hv:idxArr E i.uk q a=some v:=hv
  obtain ⟨p,hp,hv⟩:=obind_some hv
  obtain ⟨z,hz,hv⟩:=obind_some hv
  obtain ⟨a,rfl,hv⟩:=obind_some hv
  obtain ⟨hlt,rfl⟩:=idxPtr_ok hv
  obtain ⟨j,hj,rfl⟩:=sizeT_some hz
  have hu:=uk_array hT hp
  refine ⟨h2,fun w=>?_⟩
  have hb:(0:Int)≤(q:Int)∧(q:Int)<(p.1:Int):=by omega
  rw [h1,h3]
  simp [Instr.indexAt,AV.toV,asIntOf,run_underlying hu,Instr.sureAddr,hlt,Nat.not_le.2 hlt,run_sizeOf (hE.ty _ _ hj),adr_plus]
 | slice a len cap opn =>
  have hv:idxSl E i.uk q a len cap opn=some v:=hv
  obtain ⟨e,he,hv⟩:=obind_some hv
  obtain ⟨z,hz,hv⟩:=obind_some hv
  obtain ⟨a,rfl,hv⟩:=obind_some hv
  obtain ⟨hlt,rfl⟩:=idxPtr_ok hv
  obtain ⟨j,hj,rfl⟩:=sizeT_some hz
  have hu:=uk_slice hT he
  refine ⟨h2,fun w=>?_⟩
  have hb:(0:Int)≤(q:Int)∧(q:Int)<(len:Int):=by omega
  rw [h1,h3]
  simp [Instr.indexAt,AV.toV,asIntOf,run_underlying hu,hlt,Nat.not_le.2 hlt,run_sizeOf (hE.ty _ _ hj),adr_plus]
 | _=>cases hv
theorem getElem?_bytes (b:List UInt8) (q:Nat):(ByteArray.mk ⟨b⟩)[q]? = b[q]? := by
 by_cases h:q<b.length
 ·rw [ByteArray.getElem?_lt' _ _ (by exact h),List.getElem?_eq_getElem h];rfl
 ·rw [ByteArray.getElem?_ge' _ _ (by exact h),List.getElem?_eq_none (by omega)]
theorem sIndex_ok (hE:TysOk P E) {t:TypeId} {x ix:Operand} {s:Sil} (hs:Sees ρ D fr ev [x,ix]) (h:sIndex t x ix E fr=some s):SilV P ρ D (Instr.index t (ev x) (ev ix)) s:=by
 obtain ⟨u,hu,h⟩:=obind_some h
 obtain ⟨xv,hx,h⟩:=obind_some h
 obtain ⟨q,hq,h⟩:=obind_some h
 obtain ⟨v,hv,rfl⟩:=sv_some h
 obtain ⟨iv,hiv,hq⟩:=obind_some hq
 obtain ⟨k,rfl⟩:=asNat_some hq
 obtain ⟨i,hi,rfl⟩:=ukT_some hu
 have hT:=hE.ty _ _ hi
 obtain ⟨h1,h2⟩:=hs x (by simp) _ hx
 obtain ⟨h3,_⟩:=hs ix (by simp) _ hiv
 cases xv with
 | str b =>
  have hv:charAt i.uk q b=some v:=hv
  obtain ⟨hc,hv⟩:=grd_some hv
  obtain ⟨c,hc2,rfl⟩:=omap_some hv
  have hu:=uk_str hT hc
  rw [lget_eq] at hc2
  have hb:=getElem?_bytes b q
  rw [hc2] at hb
  refine ⟨trivial,fun w=>?_⟩
  rw [h1,h3]
  simp [Instr.index,AV.toV,asIntOf,run_underlying hu,hb,byteV]
 | agg cs =>
  have hv:elemAt E i.uk q cs=some v:=hv
  obtain ⟨p,hp,hv⟩:=obind_some hv
  obtain ⟨z,hz,hv⟩:=obind_some hv
  obtain ⟨hlt,hv⟩:=grd_some hv
  rw [nlt_eq] at hlt
  have hlt:q<p.1:=by simpa using hlt
  obtain ⟨j,hj,rfl⟩:=sizeT_some hz
  have hu:=uk_array hT hp
  obtain ⟨h5,h6⟩:=run_part (ρ:=ρ) hE hv h2
  refine ⟨h5,fun w=>?_⟩
  have hb:(0:Int)≤(q:Int)∧(q:Int)<(p.1:Int):=by omega
  have h6:=h6 w
  have hm:Nat.mul q j.size=q * j.size:=rfl
  rw [hm] at h6
  rw [h1,h3]
  simp [Instr.index,AV.toV,asIntOf,run_underlying hu,hlt,Nat.not_le.2 hlt,run_sizeOf (hE.ty _ _ hj),h6]
 | _=>cases hv
end
end Go.Ev
namespace Go.Ev
section
variable {P:Program} {E:Env} {ρ:Ren} {D:Dom} {fr:Fr} {ev:Operand→Value}
theorem bound_ok {y y' i:Nat} {v:AV} {c:BoundsCode} (h:bound y v=some i) (hy:y≤y'):i≤y∧∀ w,(Instr.sliceBound (v.toV ρ) y' c).run P w=.ok i w:=by
 obtain ⟨n,hn,h⟩:=obind_some h
 obtain ⟨hc,h⟩:=grd_some h
 obtain rfl:=Option.some.inj h
 obtain ⟨k,rfl⟩:=asNat_some hn
 rw [ble_eq] at hc
 have hc:n≤y:=by simpa using hc
 refine ⟨hc,fun w=>?_⟩
 have:n≤y':=Nat.le_trans hc hy
 simp [Instr.sliceBound,AV.toV,asIntOf,this]
theorem withBounds_ok {len cap cap':Nat} {lo hi mx:Option AV} {f:Nat→Nat→Nat→Option AV} {v:AV} {b:Bool} (h:withBounds len cap lo hi mx f=some v) (hcap:cap≤cap') :
 ∃ l q m,f l q m=some v∧l≤q∧q≤m∧m≤cap∧(mx=none→m=cap) ∧
  ∀ w,(Instr.sliceBounds b len cap' (lo.map (AV.toV ρ)) (hi.map (AV.toV ρ)) (mx.map (AV.toV ρ))).run P w=.ok (l,q,if mx.isSome then m else cap') w:=by
 obtain ⟨m,hm,hA⟩:=obind_some h
 obtain ⟨q,hq,hB⟩:=obind_some hA
 obtain ⟨hqm,hC⟩:=grd_some hB
 obtain ⟨l,hl,hF⟩:=obind_some hC
 clear h hA hB hC
 rw [ble_eq] at hqm
 have hqm:q≤m:=by simpa using hqm
 cases mx with
 | none =>
  obtain rfl:cap=m:=Option.some.inj hm
  cases hi with
  | none =>
   obtain rfl:len=q:=Option.some.inj hq
   cases lo with
   | none =>
    obtain rfl:0=l:=Option.some.inj hl
    exact ⟨0,len,cap,hF,Nat.zero_le _,hqm,Nat.le_refl _,fun _=>rfl,fun w=>by simp [Instr.sliceBounds]⟩
   | some lv =>
    have hl:bound len lv=some l:=hl
    obtain ⟨h1,h2⟩:=bound_ok (P:=P) (ρ:=ρ) (c:=.sliceB) hl (Nat.le_refl _)
    exact ⟨l,len,cap,hF,h1,hqm,Nat.le_refl _,fun _=>rfl,fun w=>by simp [Instr.sliceBounds,h2]⟩
  | some hv =>
   have hq:bound cap hv=some q:=hq
   obtain ⟨h3,h4⟩:=bound_ok (P:=P) (ρ:=ρ) (c:=if b then .sliceAcap else .sliceAlen) hq hcap
   cases lo with
   | none =>
    obtain rfl:0=l:=Option.some.inj hl
    exact ⟨0,q,cap,hF,Nat.zero_le _,hqm,Nat.le_refl _,fun _=>rfl,fun w=>by simp [Instr.sliceBounds,h4]⟩
   | some lv =>
    have hl:bound q lv=some l:=hl
    obtain ⟨h1,h2⟩:=bound_ok (P:=P) (ρ:=ρ) (c:=.sliceB) hl (Nat.le_refl _)
    exact ⟨l,q,cap,hF,h1,hqm,Nat.le_refl _,fun _=>rfl,fun w=>by simp [Instr.sliceBounds,h2,h4]⟩
 | some mv =>
  have hm:bound cap mv=some m:=hm
  obtain ⟨h5,h6⟩:=bound_ok (P:=P) (ρ:=ρ) (c:=if b then .slice3Acap else .slice3Alen) hm hcap
  cases hi with
  | none=>cases hq
  | some hv =>
   have hq:bound m hv=some q:=hq
   obtain ⟨h3,h4⟩:=bound_ok (P:=P) (ρ:=ρ) (c:=.slice3B) hq (Nat.le_refl _)
   cases lo with
   | none =>
    obtain rfl:0=l:=Option.some.inj hl
    exact ⟨0,q,m,hF,Nat.zero_le _,hqm,h5,(fun e=>by cases e),fun w=>by simp [Instr.sliceBounds,h4,h6]⟩
   | some lv =>
    have hl:bound q lv=some l:=hl
    obtain ⟨h1,h2⟩:=bound_ok (P:=P) (ρ:=ρ) (c:=.slice3C) hl (Nat.le_refl _)
    exact ⟨l,q,m,hF,h1,hqm,h5,(fun e=>by cases e),fun w=>by simp [Instr.sliceBounds,h2,h4,h6]⟩
theorem extract_bytes (b:List UInt8) (l q:Nat):(ByteArray.mk ⟨b⟩).extract l q=⟨⟨(b.drop l).take (q - l)⟩⟩:=by
 apply ByteArray.ext
 rw [ByteArray.data_extract]
 apply Array.ext'
 simp [List.extract_eq_take_drop]
theorem moved_eq (a:Nat×Nat) (z l m:Nat):moved a z l m=if m=l then a else (a.1,a.2+l * z):=by
 unfold moved
 rw [sw_eq,nbeq_eq]
 simp
theorem adr_moved (a:Nat×Nat) (z l m:Nat):adr ρ (moved a z l m)=if m=l then adr ρ a else (adr ρ a).add (l * z):=by
 rw [moved_eq]
 split
 ·rfl
 ·rw [adr_plus]
theorem moved_fst (a:Nat×Nat) (z l m:Nat):(moved a z l m).1=a.1:=by rw [moved_eq];split <;> rfl
theorem evalOpt_ok {o:Option Operand} {r:Option AV} (hs:Sees ρ D fr ev o.toList) (h:evalOpt o fr=some r):o.map ev=r.map (AV.toV ρ):=by
 cases o with
 | none=>obtain rfl:none=r:=Option.some.inj h;rfl
 | some x =>
  obtain ⟨v,hv,rfl⟩:=omap_some h
  simp [(hs x (by simp) v hv).1]
theorem run_slice_slice {t e:TypeId} {a:Option Addr} {len cap l q m z:Nat} {lo hi mx:Option Value} {w:World} (hu:P.underlying t=some (.slice e)) (hb:(Instr.sliceBounds true len cap lo hi mx).run P w=.ok (l,q,m) w)
 (hz:(sizeOf e).run P w=.ok z w):(Instr.sliceAt t (.slice a len cap) lo hi mx).run P w=.ok (.slice (if m=l then a else a.map (·.add (l * z))) (q - l) (m - l)) w:=by
 simp [Instr.sliceAt,Instr.slice,run_underlying hu,hb,hz]
theorem sSlice_ok (hE:TysOk P E) {t:TypeId} {x:Operand} {lo hi mx:Option Operand} {s:Sil} (hs:Sees ρ D fr ev (x :: (lo.toList ++ hi.toList ++ mx.toList))) (h:sSlice t x lo hi mx E fr=some s) :
 SilV P ρ D (Instr.sliceAt t (ev x) (lo.map ev) (hi.map ev) (mx.map ev)) s:=by
 obtain ⟨u,hu,h⟩:=obind_some h
 obtain ⟨xv,hx,h⟩:=obind_some h
 obtain ⟨lv,hlv,h⟩:=obind_some h
 obtain ⟨hv,hhv,h⟩:=obind_some h
 obtain ⟨mv,hmv,h⟩:=obind_some h
 obtain ⟨v,hr,rfl⟩:=sv_some h
 obtain ⟨i,hi',rfl⟩:=ukT_some hu
 have hT:=hE.ty _ _ hi'
 obtain ⟨h1,h2⟩:=hs x (by simp) _ hx
 have e1:=evalOpt_ok (ρ:=ρ) (D:=D) (ev:=ev) (o:=lo) (fun y hy=>hs y (by simp at hy ⊢;simp [hy])) hlv
 have e2:=evalOpt_ok (ρ:=ρ) (D:=D) (ev:=ev) (o:=hi) (fun y hy=>hs y (by simp at hy ⊢;simp [hy])) hhv
 have e3:=evalOpt_ok (ρ:=ρ) (D:=D) (ev:=ev) (o:=mx) (fun y hy=>hs y (by simp at hy ⊢;simp [hy])) hmv
 rw [h1,e1,e2,e3]
 cases xv with
 | str b =>
  clear h hu
  have hr:sliceStr lv hv mv i.uk b=some v:=hr
  obtain ⟨hc,hr2⟩:=grd_some hr
  rw [band_eq,Bool.and_eq_true,isNoneB_eq,Option.isNone_iff_eq_none] at hc
  obtain ⟨hc,hc2⟩:=hc
  subst hc2
  have hr:withBounds (llen b) (llen b) lv hv none (subStr b)=some v:=hr2
  obtain ⟨l,q,m,hf,_,hq,hm,_,hb⟩:=withBounds_ok (P:=P) (ρ:=ρ) (b:=false) hr (Nat.le_refl _)
  have hT:=uk_str hT hc
  obtain rfl:=Option.some.inj hf
  refine ⟨trivial,fun w=>?_⟩
  have hb:=hb w
  rw [llen_eq] at hb
  have hsz:(ByteArray.mk ⟨b⟩).size=b.length:=rfl
  simp only [Option.map_none] at hb
  simp [Instr.sliceAt,Instr.slice,run_underlying hT,AV.toV,hsz,hb,extract_bytes,ltake_eq,ldrop_eq]
 | ptr a =>
  have hr:sliceArr E lv hv mv i.uk a=some v:=hr
  obtain ⟨a',ha',hrA⟩:=obind_some hr
  obtain ⟨p,hp,hrB⟩:=obind_some hrA
  obtain ⟨z,hz,hrC⟩:=obind_some hrB
  clear hr hrA hrB
  subst ha'
  obtain ⟨j,hj,hjz⟩:=sizeT_some hz
  subst hjz
  have hr:withBounds p.1 p.1 lv hv mv (closedS a' j.size)=some v:=hrC
  have hT:=uk_array hT hp
  have hz:=fun w=>run_sizeOf (hE.ty _ _ hj) w
  obtain ⟨l,q,m,hf,_,hq,hm,hmx,hb⟩:=withBounds_ok (P:=P) (ρ:=ρ) (b:=false) hr (Nat.le_refl _)
  have hm':(if mv.isSome then m else p.1)=m:=by
   cases mv with
   | none=>simp [hmx rfl]
   | some _=>rfl
  rw [hm'] at hb
  obtain rfl:=Option.some.inj hf
  refine ⟨by show D (moved a' j.size l m).1;rw [moved_fst];exact h2,fun w=>?_⟩
  simp only [AV.toV,Option.map_some,adr_moved]
  simp [Instr.sliceAt,Instr.sureAddr,run_underlying hT,hb,hz]
 | slice a len cap opn =>
  have hr:sliceSl E lv hv mv i.uk a len cap opn=some v:=hr
  obtain ⟨e,he,hr⟩:=obind_some hr
  obtain ⟨z,hz,hr⟩:=obind_some hr
  obtain ⟨j,hj,rfl⟩:=sizeT_some hz
  have hT:=uk_slice hT he
  have hz:=fun w=>run_sizeOf (hE.ty _ _ hj) w
  cases a with
  | none =>
   have hr:withBounds len cap lv hv mv nilS=some v:=hr
   obtain ⟨l,q,m,hf,_,hq,hm,hmx,hb⟩:=withBounds_ok (P:=P) (ρ:=ρ) (b:=true) hr (Nat.le_refl _)
   obtain rfl:=Option.some.inj hf
   have hm':(if mv.isSome then m else cap)=m:=by
    cases mv with
    | none=>simp [hmx rfl]
    | some _=>rfl
   rw [hm'] at hb
   refine ⟨trivial,fun w=>?_⟩
   have:=run_slice_slice (a:=none) hT (hb w) (hz w)
   cases opn <;> simpa [AV.toV,roomOf] using this
  | some a =>
   have hr:sliceAt j.size len cap opn lv hv mv a=some v:=hr
   obtain ⟨l,q,m,hf,hl,hq,hm,hmx,hb⟩:=withBounds_ok (P:=P) (ρ:=ρ) (b:=true) (cap':=cap+if opn then (ρ a.1).tail else 0) hr (Nat.le_add_right _ _)
   rw [sw_eq,band_eq,isNoneB_eq] at hf
   by_cases hc:(opn && mv.isNone)=true
   ·rw [if_pos hc] at hf
    simp only [Bool.and_eq_true,Option.isNone_iff_eq_none] at hc
    obtain ⟨rfl,rfl⟩:=hc
    obtain rfl:=hmx rfl
    unfold openS at hf
    rw [sw_eq,bor_eq,nlt_eq,nbeq_eq] at hf
    by_cases hlt:l<m∨l=0
    ·have hc:(decide (l<m) || decide (l=0))=true:=by simpa using hlt
     rw [if_pos hc] at hf
     obtain rfl:=Option.some.inj hf
     refine ⟨h2,fun w=>?_⟩
     have:=run_slice_slice (a:=some (adr ρ a)) hT (hb w) (hz w)
     simp only [if_true,Option.isSome_none,Bool.false_eq_true,if_false] at this
     simp only [AV.toV,Option.map_some,roomOf,if_true]
     rw [this]
     by_cases hz0:m+(ρ a.1).tail=l
     ·have hl0:l=0:=by omega
      have hm0:m=0:=by omega
      have ht0:(ρ a.1).tail=0:=by omega
      subst hl0 hm0
      simp [ht0]
     ·rw [if_neg (by omega)]
      have e:m+(ρ a.1).tail - l=Nat.sub m l+(ρ a.1).tail:=by
       show _=m - l+_
       omega
      simp only [Option.map_some,adr_plus,e]
      rfl
    ·have hc:¬ (decide (l<m) || decide (l=0))=true:=by simpa using hlt
     rw [if_neg hc] at hf
     obtain rfl:=Option.some.inj hf
     have hlm:l=m:=by omega
     have hqm:q=m:=by omega
     subst hlm hqm
     refine ⟨h2,fun w=>?_⟩
     have:=run_slice_slice (a:=some (adr ρ a)) hT (hb w) (hz w)
     simp only [if_true,Option.isSome_none,Bool.false_eq_true,if_false] at this
     simp only [AV.toV,Option.map_some,roomOf,if_true]
     rw [this]
     by_cases ht:(ρ a.1).tail=0
     ·simp [ht]
     ·rw [if_neg (by omega),if_neg ht]
      simp [adr_plus]
   ·rw [if_neg hc] at hf
    obtain rfl:=Option.some.inj hf
    have hm':(if mv.isSome then m else cap+if opn then (ρ a.1).tail else 0)=m:=by
     cases mv with
     | none =>
      have:opn=false:=by simpa using hc
      simp [this,hmx rfl]
     | some _=>rfl
    rw [hm'] at hb
    refine ⟨by show D (moved a j.size l m).1;rw [moved_fst];exact h2,fun w=>?_⟩
    have:=run_slice_slice (a:=some (adr ρ a)) hT (hb w) (hz w)
    simp only [AV.toV,Option.map_some,roomOf,adr_moved]
    rw [this]
    by_cases hml:m=l <;> simp [hml]
 | sliceE n o0 o opn =>
  have hr:sliceEm E lv hv mv i.uk n o0 o opn=some v:=hr
  obtain ⟨e,he,hr⟩:=obind_some hr
  obtain ⟨z,hz,hr⟩:=obind_some hr
  obtain ⟨j,hj,rfl⟩:=sizeT_some hz
  have hT:=uk_slice hT he
  have hz:=fun w=>run_sizeOf (hE.ty _ _ hj) w
  obtain ⟨l,q,m,hf,hl,hq,hm,hmx,hb⟩:=withBounds_ok (P:=P) (ρ:=ρ) (b:=true) (cap':=if opn then (ρ n).tail else 0) hr (Nat.zero_le _)
  obtain rfl:=Option.some.inj hf
  obtain rfl:m=0:=by omega
  obtain rfl:q=0:=by omega
  obtain rfl:l=0:=by omega
  refine ⟨h2,fun w=>?_⟩
  have:=run_slice_slice (a:=some (if (ρ n).tail=0 then adr ρ (n,o0) else adr ρ (n,o))) hT (hb w) (hz w)
  simp only [AV.toV]
  rw [this]
  rw [band_eq,isNoneB_eq]
  by_cases ht:(ρ n).tail=0 <;> cases mv <;> cases opn <;> simp [ht,adr_plus]
 | _=>cases hr
end
end Go.Ev
namespace Go.Ev
section
variable {P:Program} {E:Env} {ρ:Ren} {D:Dom} {fr:Fr} {ev:Operand→Value}
theorem wrapS_eq (k:IntKind) (b:Nat) (x:Int) (hk:k.signed=true) (hb:k.bits=b+1):wrapS k (2 ^ b - 1) x=k.wrap x:=by
 have hp:0<2 ^ b:=Nat.pow_pos (by decide)
 have h2:(2:Int) ^ (b+1)=2 * ((2 ^ b:Nat):Int):=by rw [Int.pow_succ];push_cast;omega
 have h3:(2:Int) ^ b=((2 ^ b:Nat):Int):=by push_cast;rfl
 cases x with
 | ofNat m =>
  show sw (Nat.ble m (2 ^ b - 1)) (Int.ofNat m) (k.wrap (.ofNat m))=_
  rw [sw_eq,ble_eq]
  by_cases h:m≤2 ^ b - 1
  ·simp only [h,decide_true,if_true]
   simp only [IntKind.wrap,hk,hb,Bool.true_and,Nat.add_sub_cancel]
   rw [h2,h3]
   have:(Int.ofNat m) % (2 * ((2 ^ b:Nat):Int))=Int.ofNat m:=Int.emod_eq_of_lt (by simp) (by simp;omega)
   rw [this,if_neg]
   simp;omega
  ·simp [h]
 | negSucc m =>
  show sw (Nat.ble m (2 ^ b - 1)) (Int.negSucc m) (k.wrap (.negSucc m))=_
  rw [sw_eq,ble_eq]
  by_cases h:m≤2 ^ b - 1
  ·simp only [h,decide_true,if_true]
   simp only [IntKind.wrap,hk,hb,Bool.true_and,Nat.add_sub_cancel]
   rw [h2,h3]
   have hlt:m<2 ^ b:=by omega
   have:(Int.negSucc m) % (2 * ((2 ^ b:Nat):Int))=Int.negSucc m+2 * ((2 ^ b:Nat):Int):=by
    rw [← Int.add_emod_right,Int.emod_eq_of_lt]
    ·omega
    ·omega
   rw [this,if_pos]
   ·omega
   ·simp;omega
  ·simp [h]
theorem wrapU_eq (k:IntKind) (md:Nat) (x:Int) (hk:k.signed=false) (hb:2 ^ k.bits=md):wrapU k md x=k.wrap x:=by
 cases x with
 | ofNat m =>
  show Int.ofNat (m % md)=_
  simp only [IntKind.wrap,hk,Bool.false_and,Bool.false_eq_true,if_false]
  have:(2:Int) ^ k.bits=(md:Int):=by rw [← hb];push_cast;rfl
  rw [this]
  rfl
 | negSucc m=>rfl
theorem wrapF_eq (k:IntKind) (x:Int):wrapF k x=k.wrap x:=by
 cases k with
 | i8=>exact wrapS_eq .i8 7 x rfl rfl
 | i16=>exact wrapS_eq .i16 15 x rfl rfl
 | i32=>exact wrapS_eq .i32 31 x rfl rfl
 | i64=>exact wrapS_eq .i64 63 x rfl rfl
 | u8=>exact wrapU_eq .u8 _ x rfl rfl
 | u16=>exact wrapU_eq .u16 _ x rfl rfl
 | u32=>exact wrapU_eq .u32 _ x rfl rfl
 | u64=>exact wrapU_eq .u64 _ x rfl rfl
theorem kindEq_eq (a b:IntKind):kindEq a b=decide (a=b):=by cases a <;> cases b <;> rfl
theorem byteOf_some {v:AV} {b:UInt8} (h:byteOf v=some b):v=byteV b:=by
 obtain ⟨p,hp,h⟩:=obind_some h
 obtain ⟨hk,h⟩:=grd_some h
 obtain ⟨n,hn,h⟩:=obind_some h
 obtain ⟨hlt,h⟩:=grd_some h
 have hn:=inat_some hn
 have hb:=Option.some.inj h
 have hv:=asInt_some hp
 subst hv hb
 rw [kindEq_eq] at hk
 rw [nlt_eq] at hlt
 have hk:p.1=.u8:=by simpa using hk
 have hlt:n<256:=by simpa using hlt
 have:(UInt8.ofNat n).toNat=n:=by simp [UInt8.toNat_ofNat'];omega
 rw [hk,hn]
 show AV.int .u8 n=AV.int .u8 (.ofNat (UInt8.ofNat n).toNat)
 rw [this];rfl
theorem bytesOf_some {l:List AV} {bs:List UInt8} (h:bytesOf l=some bs):l=bs.map byteV:=by
 induction l generalizing bs with
 | nil=>obtain rfl:[]=bs:=Option.some.inj h;rfl
 | cons v l ih =>
  have h:lmapO byteOf (v :: l)=some bs:=h
  rw [lmapO_cons] at h
  simp only [Option.bind_eq_some_iff,Option.map_eq_some_iff] at h
  obtain ⟨b,hb,r,hr,rfl⟩:=h
  rw [byteOf_some hb,ih hr];rfl
theorem byteElem_ok (hE:TysOk P E) {e:TypeId} (h:byteElem E e=true):P.underlying e=some (.int .u8)∧P.cellsOf e=1∧∃ j,E.ty.get e=some j∧j.size=1∧TyOk P e j:=by
 unfold byteElem at h
 cases hj:E.ty.get e with
 | none=>rw [hj] at h;cases h
 | some j =>
  rw [hj] at h
  have h:band j.uk.isByte (Nat.beq j.size 1)=true:=h
  rw [band_eq,Bool.and_eq_true,nbeq_eq] at h
  obtain ⟨h1,h2⟩:=h
  have h2:j.size=1:=by simpa using h2
  unfold UK.isByte at h1
  cases hk:j.uk.asInt with
  | none=>rw [hk] at h1;cases h1
  | some k =>
   rw [hk] at h1
   have h1:kindEq k .u8=true:=h1
   rw [kindEq_eq] at h1
   have h1:k=.u8:=by simpa using h1
   subst h1
   have hT:=hE.ty _ _ hj
   refine ⟨uk_int hT hk,?_,j,rfl,h2,hT⟩
   obtain ⟨i,hi,hs,_⟩:=info_of hT
   simp [Program.cellsOf,hi,hs,h2]
theorem uk_unsafe {t:TypeId} {i:TI} (h:TyOk P t i) (hu:i.uk.isUnsafe=true):P.underlying t=some .unsafePointer:=by
 have h1:i.uk=.unsafePointer:=by cases hk:i.uk <;> rw [hk] at hu <;> first | rfl | cases hu
 obtain ⟨d,h2,h3⟩:=uk_desc h (by rw [h1];simp)
 rw [h1] at h3
 cases d <;> simp [ukOf] at h3
 rw [h2]
theorem convInt_ok {src dst:TypeId} {a:TypeDesc} {k:IntKind} {v:AV} {s:Sil} (ha:P.underlying src=some a) (hb:P.underlying dst=some (.int k)) (h:convInt k v=some s):SilV P ρ D (convert src dst (v.toV ρ)) s:=by
 obtain ⟨p,hp,h⟩:=obind_some h
 obtain rfl:=Option.some.inj h
 obtain rfl:=asInt_some hp
 refine ⟨trivial,fun w=>?_⟩
 simp [convert,run_underlying ha,run_underlying hb,AV.toV,Conv.intToInt,wrapF_eq]
theorem convStr_ok {src dst:TypeId} {a:TypeDesc} {v:AV} {s:Sil} (ha:P.underlying src=some a) (hb:P.underlying dst=some .string) (h:convStr v=some s):SilV P ρ D (convert src dst (v.toV ρ)) s:=by
 cases v with
 | int k n =>
  obtain rfl:=Option.some.inj h
  refine ⟨trivial,fun w=>?_⟩
  simp [convert,run_underlying ha,run_underlying hb,AV.toV,Conv.intToString]
 | str b =>
  obtain rfl:=Option.some.inj h
  refine ⟨trivial,fun w=>?_⟩
  simp [convert,run_underlying ha,run_underlying hb,AV.toV]
 | _=>cases h
theorem cellsFrom_some {o n:Nat} {ob:AObj} {cs:List AV} (h:cellsFrom o n ob=some cs):∃ vs e frz sh,ob=.cells vs e frz sh∧takeCells vs o n=some cs:=by
 cases ob with
 | cells vs e frz sh=>exact ⟨vs,e,frz,sh,rfl,h⟩
 | _=>cases h
theorem convFromSlice_ok {src dst e:TypeId} {v:AV} {s:Sil} (ha:P.underlying src=some (.slice e)) (he:P.underlying e=some (.int .u8)) (hb:P.underlying dst=some .string) (hd:v.inD D) (h:convFromSlice v=some s) :
 SilV P ρ D (convert src dst (v.toV ρ)) s:=by
 cases v with
 | slice a n c o =>
  cases a with
  | none =>
   obtain rfl:Sil.val (.str [])=s:=Option.some.inj h
   refine ⟨trivial,fun w=>?_⟩
   simp [convert,run_underlying ha,run_underlying hb,run_underlying he,AV.toV,Conv.bytesToString]
   rfl
  | some a =>
   have h:readStr n a=some s:=h
   unfold readStr at h
   rw [sw_eq,nbeq_eq] at h
   by_cases h0:n=0
   ·simp only [h0,decide_true,if_true] at h
    obtain rfl:Sil.val (.str [])=s:=Option.some.inj h
    subst h0
    refine ⟨trivial,fun w=>?_⟩
    exact run_convert_bytes_back w src dst e (adr ρ a) _ [] ha he hb (fun j hj=>by simp at hj)
   ·simp only [h0,decide_false,Bool.false_eq_true,if_false] at h
    obtain rfl:=Option.some.inj h
    refine ⟨hd,fun ob v hob hv=>?_⟩
    obtain ⟨cs,hcs,hv⟩:=obind_some hv
    obtain ⟨bs,hbs,rfl⟩:=omap_some hv
    obtain ⟨vs,e',frz,sh,rfl,hcs⟩:=cellsFrom_some hcs
    refine ⟨trivial,fun w hw=>?_⟩
    obtain ⟨h1,rfl⟩:=takeCells_some hcs
    have hm:=bytesOf_some hbs
    have hlen:bs.length=n:=by
     have:=congrArg List.length hm
     simp at this
     omega
    subst hlen
    refine run_convert_bytes_back w src dst e (adr ρ a) _ bs ha he hb (fun j hj=>?_)
    rw [adr_add,Nat.add_assoc]
    have hg:vs[a.2+j]? = some (byteV bs[j]):=by
     have h2:(List.take bs.length (List.drop a.2 vs))[j]? = some (byteV bs[j]):=by rw [hm];simp [hj]
     rw [List.getElem?_take,if_pos hj,List.getElem?_drop] at h2
     exact h2
    exact rd_cell hw hg
 | sliceE n o0 o opn =>
  obtain rfl:Sil.val (.str [])=s:=Option.some.inj h
  refine ⟨trivial,fun w=>?_⟩
  exact run_convert_bytes_back w src dst e _ _ [] ha he hb (fun j hj=>by simp at hj)
 | _=>cases h
theorem pushed_drew_alloc (w:World) (o:Obj):Pushed w (w.drew.alloc o):=⟨by show (w.heap.push o).size=_;simp,fun b hb=>heap_alloc_old w.drew o b hb,rfl,rfl,rfl⟩
theorem grownCap_ge (w:World) (n c:Nat) (e:TypeId):n≤grownCap w n c e:=by
 unfold grownCap
 simp [Question.cut]
theorem bytesRow_data (bs:List UInt8) (cap:Nat):bytesRow ⟨⟨bs⟩⟩ cap=⟨toVs ρ (bs.map byteV) ++ List.replicate (cap - bs.length) (.int .u8 0)⟩:=by
 apply Array.ext'
 simp [bytesRow,toVs_eq,ByteArray.size,List.map_map]
 intro a _;rfl
theorem allIn_bytes (bs:List UInt8):allIn D (bs.map byteV):=by
 rw [allIn_iff]
 intro v hv
 obtain ⟨b,_,rfl⟩:=List.mem_map.1 hv
 exact trivial
theorem heap_new_mark (w:World) (o:Obj):(w.drew.alloc o).heap[w.heap.size]? = some o:=by
 show (w.heap.push o)[w.heap.size]? = _
 simp
theorem convBytes_ok (hE:TysOk P E) {src dst e:TypeId} {v:AV} {s:Sil} (ha:P.underlying src=some .string) (hb:P.underlying dst=some (.slice e)) (he:byteElem E e=true) (h:convBytes e v=some s) :
 SilV P ρ D (convert src dst (v.toV ρ)) s:=by
 obtain ⟨b,hb',h⟩:=obind_some h
 obtain rfl:=asStr_some hb'
 obtain rfl:=Option.some.inj h
 obtain ⟨he1,he2,_⟩:=byteElem_ok hE he
 refine ⟨by show allIn D (lmap byteV b);rw [lmap_eq];exact allIn_bytes b,fun _ _ hk=>hk,fun w k hk=>⟨_,⟨w.heap.size,0,grownCap w b.length 0 e - b.length⟩,?_,pushed_drew_alloc w (.cells (bytesRow ⟨⟨b⟩⟩ (grownCap w b.length 0 e)) e
  ((bytesRow ⟨⟨b⟩⟩ (grownCap w b.length 0 e)).size,(bytesRow ⟨⟨b⟩⟩ (grownCap w b.length 0 e)).size+1)),rfl,?_⟩⟩
 ·have hr:=run_bytes_of_string (P:=P) w src dst e ⟨⟨b⟩⟩ ha hb he1
  have hs:(ByteArray.mk ⟨b⟩).size=b.length:=rfl
  rw [hs] at hr
  have hg:=grownCap_ge w b.length 0 e
  have hc:b.length+(grownCap w b.length 0 e - b.length)=grownCap w b.length 0 e:=by omega
  simp only [AV.toV,hr,openOn,llen_eq,Option.map_some,adr,roomOf,upd_same,if_true,hc,Nat.add_zero]
 ·have hsz:(bytesRow ⟨⟨b⟩⟩ (grownCap w b.length 0 e)).size=b.length+(grownCap w b.length 0 e - b.length):=by
   rw [bytesRow_data (ρ:=ρ)];simp [toVs_length]
  refine ⟨_,_,by rw [upd_same];exact heap_new_mark w _,?_,by rw [upd_same];exact Nat.zero_mod _,?_,?_,?_⟩
  ·intro i v hv
   rw [lmap_eq] at hv
   have hv2:=toVs_get (ρ:=upd ρ k ⟨w.heap.size,0,grownCap w b.length 0 e - b.length⟩) hv
   have hl:=(List.getElem?_eq_some_iff.1 hv2).1
   rw [upd_same,bytesRow_data (ρ:=upd ρ k ⟨w.heap.size,0,grownCap w b.length 0 e - b.length⟩)]
   simp only [Nat.zero_add,List.getElem?_toArray]
   rw [List.getElem?_append_left hl,hv2]
  ·rw [upd_same,hsz,he2,lmap_eq]
   simp
  ·rw [upd_same,hsz,he2,lmap_eq]
   intro j _ h1 h2
   simp at h1
   omega
  ·intro h;cases h
theorem ptrSeen_ok {src dst t:TypeId} {z:Nat} {v:AV} {s:Sil} (hE:TysOk P E) (ha:P.underlying src=some (.pointer t)) (hb:P.underlying dst=some .unsafePointer) (hz:solidT E t=some z) (hd:v.inD D)
 (h:convPtr ptrSeen v=some s):SilV P ρ D (convert src dst (v.toV ρ)) s:=by
 cases v with
 | ptr a =>
  cases a with
  | none =>
   obtain rfl:Sil.val (.ptr none)=s:=Option.some.inj h
   refine ⟨trivial,fun w=>?_⟩
   simp [convert,run_underlying ha,run_underlying hb,AV.toV,Conv.unsafePointer]
  | some a =>
   obtain rfl:Sil.read a.1 (ptrSeen a)=s:=Option.some.inj h
   obtain ⟨z',hz',h0⟩:=obind_some hz
   obtain ⟨h0,_⟩:=grd_some h0
   obtain ⟨j,hj,rfl⟩:=sizeT_some hz'
   rw [bnot_eq,nbeq_eq] at h0
   have h0:j.size≠0:=by simpa using h0
   refine ⟨hd,fun ob v hob hv=>?_⟩
   cases ob with
   | cells vs e frz sh =>
    have hv:grd (nlt a.2 (llen vs)) (some (AV.ptr (some a)))=some v:=hv
    obtain ⟨hlt,hv⟩:=grd_some hv
    obtain rfl:=Option.some.inj hv
    rw [nlt_eq,llen_eq] at hlt
    have hlt:a.2<vs.length:=by simpa using hlt
    refine ⟨hd,fun w hw=>?_⟩
    obtain ⟨c,fr,h1,h2,h3,h4⟩:=hw
    have hsh:w.shape? (ρ a.1).blk=some (e,c.size):=by unfold World.shape?;rw [h1]
    have hin:¬ (c.size≤(ρ a.1).off+a.2):=by omega
    simp [convert,run_underlying ha,run_underlying hb,AV.toV,Conv.unsafePointer,Conv.seenAt,viewAt,cellsIn,adr,hsh,run_sizeOf (hE.ty _ _ hj),h0,hin]
   | _=>cases hv
 | _=>cases h
theorem lany_iff {α:Type} (f:α→Bool) (l:List α):lany f l=true↔∃ a∈l,f a=true:=by
 induction l with
 | nil=>exact ⟨(fun h=>by cases h),(fun ⟨a,h,_⟩=>by cases h)⟩
 | cons a l ih =>
  show bor (f a) (lany f l)=true↔_
  rw [bor_eq,Bool.or_eq_true,ih]
  simp
theorem cellsOf_size {t:TypeId} {j:TI} (h:TyOk P t j):P.cellsOf t=j.size:=by
 obtain ⟨i,hi,hs,_⟩:=info_of h
 simp [Program.cellsOf,hi,hs]
theorem stood_of_plain {t:TypeId} {i:TI} {fs:List (Nat×TypeId)} (h:TyOk P t i) (hu:i.uk.asStruct=some (fs,true)):P.stoodInHeld t=false:=by
 have h1:i.uk=.struct fs true:=by cases hk:i.uk <;> rw [hk] at hu <;> first | (cases hu;rfl) | cases hu
 exact h.plain fs h1
theorem rowAt_of_liesIn (hE:TysOk P E) {u:TypeId} {fits:TypeId→Bool} (hf:fits u=true):∀ (n:Nat) (e:TypeId) (r:Nat),liesIn E u n e r=true→∀ (d count off:Nat),n≤d→P.cellsOf e≠0→off % P.cellsOf e=r →
 off / P.cellsOf e+1≤count→rowAt P fits d e count off 1=true:=by
 intro n
 induction n with
 | zero=>intro e r h;cases h
 | succ n ih =>
  intro e r h d count off hd hs hr hc
  obtain ⟨d,rfl⟩:∃ d',d=d'+1:=⟨d - 1,by omega⟩
  have h:bor (band (Nat.beq e u) (Nat.beq r 0)) (oelim (ukT E e) false (liesS E (liesIn E u n) r))=true:=h
  rw [bor_eq,Bool.or_eq_true,band_eq,Bool.and_eq_true,nbeq_eq,nbeq_eq] at h
  simp only [rowAt,hs,if_false,Bool.or_eq_true,Bool.and_eq_true,decide_eq_true_eq,beq_iff_eq]
  rcases h with ⟨h1,h2⟩ | h
  ·left
   have h1:e=u:=by simpa using h1
   have h2:r=0:=by simpa using h2
   subst h1
   exact ⟨⟨by omega,hc⟩,hf⟩
  ·right
   refine ⟨by omega,?_⟩
   cases hu:ukT E e with
   | none=>rw [hu] at h;cases h
   | some k =>
    rw [hu] at h
    obtain ⟨i,hi,rfl⟩:=ukT_some hu
    have h:liesS E (liesIn E u n) r i.uk=true:=h
    unfold liesS at h
    cases hp:i.uk.asStruct with
    | none=>rw [hp] at h;cases h
    | some p =>
     rw [hp] at h
     have h:band p.2 (lany (liesF E (liesIn E u n) r) p.1)=true:=h
     rw [band_eq,Bool.and_eq_true,lany_iff] at h
     obtain ⟨h2,q,hq,hf'⟩:=h
     have hT:=hE.ty _ _ hi
     obtain ⟨fs,hd1,hd2,_⟩:=uk_struct hT hp
     rw [hd1]
     have hst:P.stoodInHeld e=false:=stood_of_plain (fs:=p.1) hT (by rw [hp,← h2])
     rw [hd2] at hq
     obtain ⟨g,hg,rfl⟩:=List.mem_map.1 hq
     unfold liesF at hf'
     rw [band_eq,Bool.and_eq_true,ble_eq] at hf'
     obtain ⟨hf1,hf2⟩:=hf'
     cases hz:sizeT E g.type with
     | none=>rw [hz] at hf2;cases hf2
     | some z =>
      rw [hz] at hf2
      have hf2:band (nlt r (Nat.add g.offset z)) (liesIn E u n g.type (r - g.offset))=true:=hf2
      rw [band_eq,Bool.and_eq_true,nlt_eq] at hf2
      obtain ⟨hf3,hf4⟩:=hf2
      obtain ⟨j,hj,rfl⟩:=sizeT_some hz
      have hcs:=cellsOf_size (hE.ty _ _ hj)
      have hf1:g.offset≤r:=by simpa using hf1
      have hf3:r<g.offset+j.size:=by simpa using hf3
      simp only [hst,Bool.not_false,Bool.true_and,]
      simp only [Array.any_eq_true,Bool.and_eq_true,decide_eq_true_eq]
      obtain ⟨m,hm,hgm⟩:=List.getElem_of_mem hg
      have hsz:j.size≠0:=by
       intro e0
       rw [hr.symm] at hf1 hf3
       omega
      refine ⟨m,by simpa using hm,?_⟩
      have hgm':fs[m]'(by simpa using hm)=g:=by rw [← hgm];simp
      rw [hgm',hcs,hr]
      refine ⟨⟨hf1,hf3⟩,?_⟩
      have hlt:r - g.offset<j.size:=by omega
      exact ih g.type (r - g.offset) hf4 d 1 (r - g.offset) (by omega) (by rw [hcs];exact hsz) (by rw [hcs];exact Nat.mod_eq_of_lt hlt) (by rw [hcs,Nat.div_eq_of_lt hlt];omega)
theorem liesAt_of_liesIn (hE:TysOk P E) (hdep:21≤P.depth) {e u:TypeId} {count off:Nat} (hs:P.cellsOf e≠0) (h:liesIn E u 20 e (off % P.cellsOf e)=true) (hc:off / P.cellsOf e+1≤count) :
 liesAt P P.depth e count off u 1=true:=by
 obtain ⟨d,hd⟩:∃ d,P.depth=d+1:=⟨P.depth - 1,by omega⟩
 rw [hd]
 simp only [liesAt,Bool.or_eq_true]
 left
 refine rowAt_of_liesIn hE ?_ 20 e _ h P.depth count off (by omega) hs rfl hc
 rw [hd]
 simp [sameLayout]
theorem ptrAs_ok {src dst u:TypeId} {v:AV} {s:Sil} (hE:TysOk P E) (hdep:21≤P.depth) (ha:P.underlying src=some .unsafePointer) (hb:P.underlying dst=some (.pointer u)) (hd:v.inD D) {z:Nat} (hz:solidT E u=some z)
 (h:convPtr (ptrAs E u) v=some s):SilV P ρ D (convert src dst (v.toV ρ)) s:=by
 cases v with
 | ptr a =>
  cases a with
  | none =>
   obtain rfl:Sil.val (.ptr none)=s:=Option.some.inj h
   refine ⟨trivial,fun w=>?_⟩
   simp [convert,run_underlying ha,run_underlying hb,AV.toV,Conv.unsafePointer]
  | some a =>
   obtain rfl:Sil.read a.1 (ptrAs E u a)=s:=Option.some.inj h
   obtain ⟨z',hz',h0⟩:=obind_some hz
   obtain ⟨h0,_⟩:=grd_some h0
   obtain ⟨j,hj,rfl⟩:=sizeT_some hz'
   refine ⟨hd,fun ob v hob hv=>?_⟩
   cases ob with
   | cells vs e frz sh =>
    have hv:obind (solidT E e) (fun s=>grd (wholeIn E u e a.2 (llen vs) s) (some (AV.ptr (some a))))=some v:=hv
    obtain ⟨s,hs,hv⟩:=obind_some hv
    obtain ⟨hw,hv⟩:=grd_some hv
    obtain rfl:=Option.some.inj hv
    obtain ⟨s',hs',hs1⟩:=obind_some hs
    obtain ⟨h1,hs2⟩:=grd_some hs1
    obtain rfl:=Option.some.inj hs2
    obtain ⟨i,hi,rfl⟩:=sizeT_some hs'
    rw [bnot_eq,nbeq_eq] at h1
    have h1:i.size≠0:=by simpa using h1
    unfold wholeIn at hw
    rw [band_eq,Bool.and_eq_true,ble_eq,llen_eq] at hw
    obtain ⟨hw1,hw2⟩:=hw
    have hw2:(a.2 / i.size+1) * i.size≤vs.length:=of_decide_eq_true hw2
    have hcs:=cellsOf_size (hE.ty _ _ hi)
    refine ⟨hd,fun w hw=>?_⟩
    obtain ⟨c,fr,g1,g2,g3,g4⟩:=hw
    rw [hcs] at g3
    have hsh:w.shape? (ρ a.1).blk=some (e,c.size):=by unfold World.shape?;rw [g1]
    have hpos:0<i.size:=Nat.pos_of_ne_zero h1
    obtain ⟨q,hq⟩:∃ q,(ρ a.1).off=i.size * q:=⟨(ρ a.1).off / i.size,by have:=Nat.div_add_mod (ρ a.1).off i.size;omega⟩
    have hmod:((ρ a.1).off+a.2) % i.size=a.2 % i.size:=by rw [hq,Nat.mul_add_mod]
    have hdiv:((ρ a.1).off+a.2) / i.size=q+a.2 / i.size:=by rw [hq,Nat.mul_add_div hpos]
    have hlies:=liesAt_of_liesIn (count:=c.size / i.size) hE hdep (by rw [hcs];exact h1) (by rw [hcs,hmod];exact hw1) (by
     rw [hcs,hdiv,Nat.le_div_iff_mul_le hpos]
     have:(q+a.2 / i.size+1) * i.size=i.size * q+(a.2 / i.size+1) * i.size:=by
      rw [Nat.add_assoc,Nat.add_mul,Nat.mul_comm q]
     omega)
    simp [convert,run_underlying ha,run_underlying hb,AV.toV,Conv.unsafePointer,Conv.seenAt,viewAt,adr,hsh,run_sizeOf (hE.ty _ _ hj),variablesAt,run_program,hcs,hlies]
   | _=>cases hv
 | _=>cases h
theorem sConvert_ok (hE:TysOk P E) (hdep:21≤P.depth) {src dst:TypeId} {x:Operand} {s:Sil} (hs:Sees ρ D fr ev [x]) (h:sConvert src dst x E fr=some s):SilV P ρ D (convert src dst (ev x)) s:=by
 obtain ⟨v,hv,h⟩:=obind_some h
 obtain ⟨a,ha,h⟩:=obind_some h
 obtain ⟨b,hb,h⟩:=obind_some h
 obtain ⟨ho,h⟩:=grd_some h
 obtain ⟨i,hi,rfl⟩:=ukT_some ha
 obtain ⟨j,hj,rfl⟩:=ukT_some hb
 obtain ⟨h1,h2⟩:=hs x (by simp) v hv
 rw [h1]
 have hI:=hE.ty _ _ hi
 have hJ:=hE.ty _ _ hj
 obtain ⟨d,hd,hk⟩:=uk_desc hI (by intro e;rw [e] at ho;cases ho)
 unfold convBy at h
 cases hbi:j.uk.asInt with
 | some k =>
  rw [hbi] at h
  exact convInt_ok hd (uk_int hJ hbi) h
 | none =>
  rw [hbi] at h
  have h:sw j.uk.isStr (convToStr E i.uk v) (oelim j.uk.asSlice (convUnsafe E i.uk j.uk v) fun e=>grd (band i.uk.isStr (byteElem E e)) (convBytes e v))=some s:=h
  rw [sw_eq] at h
  cases hbs:j.uk.isStr with
  | true =>
   rw [hbs] at h
   have h:convToStr E i.uk v=some s:=h
   have hJ:=uk_str hJ hbs
   unfold convToStr at h
   cases has:i.uk.asSlice with
   | none =>
    rw [has] at h
    exact convStr_ok hd hJ h
   | some e =>
    rw [has] at h
    obtain ⟨he,h⟩:=grd_some h
    exact convFromSlice_ok (uk_slice hI has) (byteElem_ok hE he).1 hJ h2 h
  | false =>
   rw [hbs] at h
   have h:(oelim j.uk.asSlice (convUnsafe E i.uk j.uk v) fun e=>grd (band i.uk.isStr (byteElem E e)) (convBytes e v))=some s:=h
   cases hbl:j.uk.asSlice with
   | some e =>
    rw [hbl] at h
    obtain ⟨hc,h⟩:=grd_some h
    rw [band_eq,Bool.and_eq_true] at hc
    exact convBytes_ok hE (uk_str hI hc.1) (uk_slice hJ hbl) hc.2 h
   | none =>
    rw [hbl] at h
    have h:convUnsafe E i.uk j.uk v=some s:=h
    unfold convUnsafe at h
    cases hap:i.uk.asPtr with
    | some t =>
     rw [hap] at h
     obtain ⟨hu,h⟩:=grd_some h
     obtain ⟨z,hz,h⟩:=obind_some h
     exact ptrSeen_ok hE (uk_ptr hI hap) (uk_unsafe hJ hu) hz h2 h
    | none =>
     rw [hap] at h
     obtain ⟨hu,h⟩:=grd_some h
     obtain ⟨u,hbp,h⟩:=obind_some h
     obtain ⟨z,hz,h⟩:=obind_some h
     exact ptrAs_ok hE hdep (uk_unsafe hI hu) (uk_ptr hJ hbp) h2 hz h
end
end Go.Ev
namespace Go.Ev
section
variable {P:Program} {E:Env} {ρ:Ren} {D:Dom} {fr:Fr} {ev:Operand→Value}
theorem ile_eq (a b:Int):ile a b=decide (a≤b):=by
 cases a with
 | ofNat a=>cases b with
  | ofNat b=>show Nat.ble a b=_;rw [ble_eq];simp
  | negSucc b=>show false=_;symm;rw [decide_eq_false_iff_not];simp;omega
 | negSucc a=>cases b with
  | ofNat b=>show true=_;symm;rw [decide_eq_true_iff];simp;omega
  | negSucc b=>show Nat.ble b a=_;rw [ble_eq];simp;omega
theorem ieq_eq (a b:Int):ieq a b=decide (a=b):=by
 cases a with
 | ofNat a=>cases b with
  | ofNat b=>show Nat.beq a b=_;rw [nbeq_eq];simp;omega
  | negSucc b=>show false=_;symm;rw [decide_eq_false_iff_not];simp
 | negSucc a=>cases b with
  | ofNat b=>show false=_;symm;rw [decide_eq_false_iff_not];simp
  | negSucc b=>show Nat.beq a b=_;rw [nbeq_eq];simp
theorem ilt_eq (a b:Int):ilt a b=decide (a<b):=by
 unfold ilt
 rw [bnot_eq,ile_eq]
 by_cases h:a<b
 ·have:¬ b≤a:=by omega
  simp [h,this]
 ·have:b≤a:=by omega
  simp [h,this]
theorem addF_eq (a b:Int):addF a b=a+b:=by
 cases a with
 | ofNat a=>cases b <;> rfl
 | negSucc a=>rfl
theorem subNatNat_eq (a b:Nat):Int.subNatNat a b=(a:Int) - b:=by rw [Int.subNatNat_eq_coe]
theorem subF_eq (a b:Int):subF a b=a - b:=by
 cases a with
 | ofNat a=>cases b with
  | ofNat b =>
   show sw (Nat.ble b a) (Int.ofNat (a - b)) (Int.subNatNat a b)=_
   rw [sw_eq,ble_eq,subNatNat_eq]
   by_cases h:b≤a
   ·simp [h];omega
   ·simp [h]
  | negSucc b=>rfl
 | negSucc a=>rfl
theorem mulF_eq (a b:Int):mulF a b=a * b:=by
 cases a with
 | ofNat a=>cases b <;> rfl
 | negSucc a=>rfl
theorem bitVec_small {n x:Nat} (h:x<2 ^ n):(BitVec.ofInt n (x:Int)).toNat=x:=by
 rw [BitVec.ofInt_natCast,BitVec.toNat_ofNat,Nat.mod_eq_of_lt h]
theorem bitsV_some {f:Nat→Nat→Nat} {k:IntKind} {a b:Int} {v:AV} (h:bitsV f k a b=some v):∃ x y:Nat,a=x∧b=y∧x<2 ^ k.bits∧y<2 ^ k.bits∧v=.int k (k.wrap (f x y:Nat)):=by
 obtain ⟨x,hx,h⟩:=obind_some h
 obtain ⟨y,hy,h⟩:=obind_some h
 obtain ⟨hc,h⟩:=grd_some h
 obtain rfl:=Option.some.inj h
 rw [band_eq,Bool.and_eq_true,nlt_eq,nlt_eq] at hc
 exact ⟨x,y,inat_some hx,inat_some hy,of_decide_eq_true hc.1,of_decide_eq_true hc.2,by rw [wrapF_eq];rfl⟩
theorem intOp_ok {op:BinOp} {k k':IntKind} {a b:Int} {v:AV} {t:TypeId} (hk:isShift op=true∨k=k') (h:intOp op k a b=some v):v.inD D∧∀ w,(binOp op t (.int k a) (.int k' b)).run P w=.ok (v.toV ρ) w:=by
 cases op with
 | add =>
  obtain rfl:k=k':=hk.elim (fun h=>by cases h) id
  obtain rfl:=Option.some.inj h
  exact ⟨trivial,fun w=>by simp [binOp,Op.intArith,AV.toV,wrapF_eq,addF_eq]⟩
 | sub =>
  obtain rfl:k=k':=hk.elim (fun h=>by cases h) id
  obtain rfl:=Option.some.inj h
  exact ⟨trivial,fun w=>by simp [binOp,Op.intArith,AV.toV,wrapF_eq,subF_eq]⟩
 | mul =>
  obtain rfl:k=k':=hk.elim (fun h=>by cases h) id
  obtain rfl:=Option.some.inj h
  exact ⟨trivial,fun w=>by simp [binOp,Op.intArith,AV.toV,wrapF_eq,mulF_eq]⟩
 | quo =>
  obtain rfl:k=k':=hk.elim (fun h=>by cases h) id
  have h:sw (ieq b 0) none (some (AV.int k (wrapF k (a.tdiv b))))=some v:=h
  rw [sw_eq,ieq_eq] at h
  by_cases h0:b=0
  ·simp [h0] at h
  ·simp only [h0,decide_false,Bool.false_eq_true,if_false] at h
   obtain rfl:=Option.some.inj h
   exact ⟨trivial,fun w=>by simp [binOp,Op.intDiv,AV.toV,wrapF_eq,h0]⟩
 | rem =>
  obtain rfl:k=k':=hk.elim (fun h=>by cases h) id
  have h:sw (ieq b 0) none (some (AV.int k (a.tmod b)))=some v:=h
  rw [sw_eq,ieq_eq] at h
  by_cases h0:b=0
  ·simp [h0] at h
  ·simp only [h0,decide_false,Bool.false_eq_true,if_false] at h
   obtain rfl:=Option.some.inj h
   exact ⟨trivial,fun w=>by simp [binOp,Op.intDiv,AV.toV,h0]⟩
 | and =>
  obtain rfl:k=k':=hk.elim (fun h=>by cases h) id
  obtain ⟨x,y,rfl,rfl,hx,hy,rfl⟩:=bitsV_some h
  refine ⟨trivial,fun w=>?_⟩
  simp only [binOp,ne_eq,not_true_eq_false,if_false,Op.intBits,BitVec.toNat_and,bitVec_small hx,bitVec_small hy,Sem.run_pure,AV.toV]
  rfl
 | or =>
  obtain rfl:k=k':=hk.elim (fun h=>by cases h) id
  obtain ⟨x,y,rfl,rfl,hx,hy,rfl⟩:=bitsV_some h
  refine ⟨trivial,fun w=>?_⟩
  simp only [binOp,ne_eq,not_true_eq_false,if_false,Op.intBits,BitVec.toNat_or,bitVec_small hx,bitVec_small hy,Sem.run_pure,AV.toV]
  rfl
 | xor =>
  obtain rfl:k=k':=hk.elim (fun h=>by cases h) id
  obtain ⟨x,y,rfl,rfl,hx,hy,rfl⟩:=bitsV_some h
  refine ⟨trivial,fun w=>?_⟩
  simp only [binOp,ne_eq,not_true_eq_false,if_false,Op.intBits,BitVec.toNat_xor,bitVec_small hx,bitVec_small hy,Sem.run_pure,AV.toV]
  rfl
 | shl =>
  obtain ⟨n,hn,h⟩:=obind_some h
  obtain rfl:=inat_some hn
  obtain rfl:=Option.some.inj h
  refine ⟨trivial,fun w=>?_⟩
  have h0:¬ ((n:Int)<0):=by omega
  simp [binOp,Op.shift,AV.toV,wrapF_eq,mulF_eq,h0]
 | shr =>
  obtain ⟨n,hn,h⟩:=obind_some h
  obtain rfl:=inat_some hn
  obtain rfl:=Option.some.inj h
  refine ⟨trivial,fun w=>?_⟩
  have h0:¬ ((n:Int)<0):=by omega
  simp [binOp,Op.shift,AV.toV,h0]
 | andNot=>cases h
 | eql =>
  obtain rfl:k=k':=hk.elim (fun h=>by cases h) id
  obtain rfl:=Option.some.inj h
  exact ⟨trivial,fun w=>by simp [binOp,Op.intCmp,AV.toV,ieq_eq];rfl⟩
 | neq =>
  obtain rfl:k=k':=hk.elim (fun h=>by cases h) id
  obtain rfl:=Option.some.inj h
  exact ⟨trivial,fun w=>by simp [binOp,Op.intCmp,AV.toV,ieq_eq,bnot_eq];rfl⟩
 | lss =>
  obtain rfl:k=k':=hk.elim (fun h=>by cases h) id
  obtain rfl:=Option.some.inj h
  exact ⟨trivial,fun w=>by simp [binOp,Op.intCmp,AV.toV,ilt_eq]⟩
 | leq =>
  obtain rfl:k=k':=hk.elim (fun h=>by cases h) id
  obtain rfl:=Option.some.inj h
  exact ⟨trivial,fun w=>by simp [binOp,Op.intCmp,AV.toV,ile_eq]⟩
 | gtr =>
  obtain rfl:k=k':=hk.elim (fun h=>by cases h) id
  obtain rfl:=Option.some.inj h
  exact ⟨trivial,fun w=>by simp [binOp,Op.intCmp,AV.toV,ilt_eq]⟩
 | geq =>
  obtain rfl:k=k':=hk.elim (fun h=>by cases h) id
  obtain rfl:=Option.some.inj h
  exact ⟨trivial,fun w=>by simp [binOp,Op.intCmp,AV.toV,ile_eq]⟩
theorem beqByte_eq (a b:UInt8):beqByte a b=(a == b):=by
 unfold beqByte
 rw [nbeq_eq]
 by_cases h:a=b
 ·simp [h]
 ·have:a.toNat≠b.toNat:=fun e=>h (UInt8.toNat_inj.1 e)
  simp [h,this]
theorem eqBytes_eq (x y:List UInt8):eqBytes x y=(x == y):=by
 induction x generalizing y with
 | nil=>cases y <;> rfl
 | cons a x ih=>cases y with
  | nil=>rfl
  | cons b y =>
   show band (beqByte a b) (eqBytes x y)=_
   rw [band_eq,beqByte_eq,ih]
   rfl
theorem ltBytes_eq (x y:List UInt8):ltBytes x y=Op.bytesLess x y:=by
 induction x generalizing y with
 | nil=>cases y <;> rfl
 | cons a x ih=>cases y with
  | nil=>rfl
  | cons b y =>
   show bor (nlt a.toNat b.toNat) (band (beqByte a b) (ltBytes x y))=_
   rw [bor_eq,band_eq,beqByte_eq,ih,nlt_eq]
   simp only [Op.bytesLess]
   rfl
theorem toList_mk (x:List UInt8):(ByteArray.mk ⟨x⟩).toList=x:=by rw [ByteArray.toList_eq]
theorem strOp_ok {op:BinOp} {a b:List UInt8} {v:AV} {t:TypeId} (h:strOp op a b=some v):v.inD D∧∀ w,(binOp op t (.string ⟨⟨a⟩⟩) (.string ⟨⟨b⟩⟩)).run P w=.ok (v.toV ρ) w:=by
 cases op with
 | add =>
  obtain ⟨hc,h⟩:=grd_some h
  obtain rfl:=Option.some.inj h
  rw [ble_eq,llen_eq,llen_eq] at hc
  have hc:a.length+b.length≤9223372036854775807:=of_decide_eq_true hc
  refine ⟨trivial,fun w=>?_⟩
  have hs:∀ l:List UInt8,(ByteArray.mk ⟨l⟩).size=l.length:=fun _=>rfl
  have hm:IntKind.i64.max=9223372036854775807:=rfl
  have hn:¬ (((a.length+b.length:Nat):Int) > IntKind.i64.max):=by rw [hm];omega
  simp only [binOp,Op.stringOp,hs]
  rw [if_neg hn]
  simp only [Sem.run_pure,AV.toV,lapp_eq]
  congr 2
 | eql=>obtain rfl:=Option.some.inj h;exact ⟨trivial,fun w=>by simp only [binOp,Op.stringOp,toList_mk,Sem.run_pure,AV.toV,eqBytes_eq]⟩
 | neq=>obtain rfl:=Option.some.inj h;exact ⟨trivial,fun w=>by simp only [binOp,Op.stringOp,toList_mk,Sem.run_pure,AV.toV,eqBytes_eq,bnot_eq]⟩
 | lss=>obtain rfl:=Option.some.inj h;exact ⟨trivial,fun w=>by simp only [binOp,Op.stringOp,toList_mk,Sem.run_pure,AV.toV,ltBytes_eq]⟩
 | leq=>obtain rfl:=Option.some.inj h;exact ⟨trivial,fun w=>by simp only [binOp,Op.stringOp,toList_mk,Sem.run_pure,AV.toV,ltBytes_eq,eqBytes_eq,bor_eq]⟩
 | gtr=>obtain rfl:=Option.some.inj h;exact ⟨trivial,fun w=>by simp only [binOp,Op.stringOp,toList_mk,Sem.run_pure,AV.toV,ltBytes_eq,eqBytes_eq,bor_eq,bnot_eq]⟩
 | geq=>obtain rfl:=Option.some.inj h;exact ⟨trivial,fun w=>by simp only [binOp,Op.stringOp,toList_mk,Sem.run_pure,AV.toV,ltBytes_eq,bnot_eq]⟩
 | _=>cases h
end
end Go.Ev
