/- A part of the proof: EvSilH, EvSilI, EvSilJ, EvSilK -/
import Derived.Test.YtimfnccfnefajaaGreatDoorVEvC
set_option linter.unusedSimpArgs false
set_option linter.unusedVariables false
namespace Go.Ev
def allD:Dom:=fun _=>True
mutual
theorem inD_all:∀ v:AV,v.inD allD
 | .bool _=>trivial
 | .int _ _=>trivial
 | .str _=>trivial
 | .ptr a=>by cases a <;> exact trivial
 | .slice a _ _ _=>by cases a <;> exact trivial
 | .sliceE _ _ _ _=>trivial
 | .map r=>by cases r <;> exact trivial
 | .func _ a b=>⟨allIn_all a,allIn_all b⟩
 | .nilFunc=>trivial
 | .iface _ v=>inD_all v
 | .nilIface=>trivial
 | .agg cs=>allIn_all cs
 | .tuple vs=>allIn_all vs
theorem allIn_all:∀ l:List AV,allIn allD l
 | []=>trivial
 | v :: l=>⟨inD_all v,allIn_all l⟩
end
section
variable {P:Program} {E:Env} {ρ:Ren} {D:Dom} {fr:Fr} {ev:Operand→Value}
theorem run_part' (hE:TysOk P E) {t:TypeId} {cs:List AV} {off:Nat} {v:AV} (h:part E t cs off=some v) (w:World):(Go.part t ⟨toVs ρ cs⟩ off).run P w=.ok (v.toV ρ) w:=(run_part (D:=allD) hE h (allIn_all cs)).2 w
theorem oneNil_some {α β:Type} {a:Option α} {b:Option β} {r:Bool} (h:oneNil a b=some r):(a=none∧r=b.isNone)∨(a.isSome=true∧b=none∧r=false):=by
 cases a with
 | none=>left;exact ⟨rfl,by rw [← isNoneB_eq];exact (Option.some.inj h).symm⟩
 | some a =>
  obtain ⟨hc,h⟩:=grd_some h
  rw [isNoneB_eq,Option.isNone_iff_eq_none] at hc
  exact .inr ⟨rfl,hc,(Option.some.inj h).symm⟩
theorem addrEq_iff {a b:Nat×Nat} (h:addrEq a b=true):a=b:=by
 unfold addrEq at h
 rw [band_eq,Bool.and_eq_true,nbeq_eq,nbeq_eq] at h
 exact Prod.ext (of_decide_eq_true h.1) (of_decide_eq_true h.2)
theorem sameAddr_self (a:Addr) (w:World):(sameAddr a a).run P w=.ok true w:=by simp [sameAddr]
theorem eqFlat_ok (hE:TysOk P E) {t:TypeId} {i:TI} {x y:AV} {r:Bool} (hi:E.ty.get t=some i) (hs:solid E i.uk=true) (h:eqFlat i.uk x y=some r) (d:Nat) (w:World) :
 (Op.equalIn (d+1) t (x.toV ρ) (y.toV ρ)).run P w=.ok r w:=by
 have hT:=hE.ty _ _ hi
 cases hk:i.uk with
 | bool =>
  rw [hk] at h
  have hu:P.underlying t=some .bool:=by
   obtain ⟨d,h2,h3⟩:=uk_desc hT (by rw [hk];simp)
   rw [hk] at h3
   cases d <;> simp [ukOf] at h3
   exact h2
  cases x with
  | bool a =>
   have h:omap (beqB a) y.asBool=some r:=h
   obtain ⟨b,hb,rfl⟩:=omap_some h
   obtain rfl:=asBool_some hb
   rw [beqB_eq]
   exact run_equalIn_bool' w d t a b hu
  | _=>cases h
 | int k =>
  rw [hk] at h
  have hu:=uk_int hT (k:=k) (by rw [hk];rfl)
  cases x with
  | int k a =>
   have h:obind y.asInt (eqIntP k a)=some r:=h
   obtain ⟨p,hp,h⟩:=obind_some h
   obtain ⟨hc,h⟩:=grd_some h
   rw [kindEq_eq] at hc
   have hc:k=p.1:=of_decide_eq_true hc
   have h:=Option.some.inj h
   subst h
   have hp:=asInt_some hp
   subst hp hc
   rw [ieq_eq]
   exact run_equalIn_int w d t _ _ a p.2 hu
  | _=>cases h
 | string =>
  rw [hk] at h
  have hu:=uk_str hT (by rw [hk];rfl)
  cases x with
  | str a =>
   have h:omap (eqBytes a) y.asStr=some r:=h
   obtain ⟨b,hb,rfl⟩:=omap_some h
   obtain rfl:=asStr_some hb
   have:=run_equalIn_string (P:=P) w d t ⟨⟨a⟩⟩ ⟨⟨b⟩⟩ hu
   rw [toList_mk,toList_mk] at this
   rw [eqBytes_eq]
   exact this
  | _=>cases h
 | unsafePointer=>rw [hk] at h;cases h
 | ptr e =>
  rw [hk] at h hs
  have hu:=uk_ptr hT (e:=e) (by rw [hk];rfl)
  have hz:∃ j,E.ty.get e=some j∧j.size≠0:=by
   have hs:oelim (sizeT E e) false (fun z=>bnot (Nat.beq z 0))=true:=hs
   cases hz:sizeT E e with
   | none=>rw [hz] at hs;cases hs
   | some z =>
    rw [hz] at hs
    have hs:bnot (Nat.beq z 0)=true:=hs
    obtain ⟨j,hj,rfl⟩:=sizeT_some hz
    rw [bnot_eq,nbeq_eq] at hs
    exact ⟨j,hj,by simpa using hs⟩
  obtain ⟨j,hj,h0⟩:=hz
  have hsz:=fun w=>run_sizeOf (hE.ty _ _ hj) w
  cases x with
  | ptr a =>
   have h:eqPtr a y=some r:=h
   cases y with
   | ptr b =>
    have h:eqPtr1 a b=some r:=h
    cases a with
    | none =>
     obtain rfl:=Option.some.inj h
     rw [isNoneB_eq]
     cases b <;> simp [Op.equalIn,run_underlying hu,AV.toV]
    | some a =>
     have h:eqPtr2 a b=some r:=h
     cases b with
     | none =>
      obtain rfl:false=r:=Option.some.inj h
      simp [Op.equalIn,run_underlying hu,AV.toV]
     | some b =>
      obtain ⟨hc,h⟩:=grd_some h
      have h:=Option.some.inj h
      subst h
      obtain rfl:=addrEq_iff hc
      simp [Op.equalIn,run_underlying hu,AV.toV,hsz,h0,sameAddr_self]
   | _=>cases h
  | _=>cases h
 | slice e =>
  rw [hk] at h
  have hu:=uk_slice hT (e:=e) (by rw [hk];rfl)
  cases x with
  | slice a n c o =>
   cases y with
   | slice b n' c' o' =>
    have h:oneNil a b=some r:=h
    rcases oneNil_some h with ⟨rfl,rfl⟩ | ⟨ha,rfl,rfl⟩
    ·cases b <;> simp [Op.equalIn,run_underlying hu,AV.toV]
    ·cases a with
     | none=>cases ha
     | some a=>simp [Op.equalIn,run_underlying hu,AV.toV]
   | sliceE m o0 o1 o2 =>
    obtain ⟨hc,h⟩:=grd_some h
    rw [isNoneB_eq,Option.isNone_iff_eq_none] at hc
    subst hc
    obtain rfl:=Option.some.inj h
    simp [Op.equalIn,run_underlying hu,AV.toV]
   | _=>cases h
  | sliceE m o0 o1 o2 =>
   cases y with
   | slice b n' c' o' =>
    obtain ⟨hc,h⟩:=grd_some h
    rw [isNoneB_eq,Option.isNone_iff_eq_none] at hc
    subst hc
    obtain rfl:=Option.some.inj h
    simp [Op.equalIn,run_underlying hu,AV.toV]
   | _=>cases h
  | _=>cases h
 | array n e=>rw [hk] at h;cases h
 | map k e =>
  rw [hk] at h
  have hu:=uk_map hT (p:=(k,e)) (by rw [hk];rfl)
  cases x with
  | map a =>
   cases y with
   | map b =>
    have h:oneNil a b=some r:=h
    rcases oneNil_some h with ⟨rfl,rfl⟩ | ⟨ha,rfl,rfl⟩
    ·cases b <;> simp [Op.equalIn,run_underlying hu,AV.toV]
    ·cases a with
     | none=>cases ha
     | some a=>simp [Op.equalIn,run_underlying hu,AV.toV]
   | _=>cases h
  | _=>cases h
 | struct fs p=>rw [hk] at h;cases h
 | func =>
  rw [hk] at h
  have hu:∃ a b c,P.underlying t=some (.func a b c):=by
   obtain ⟨d,h2,h3⟩:=uk_desc hT (by rw [hk];simp)
   rw [hk] at h3
   cases d <;> simp [ukOf] at h3
   exact ⟨_,_,_,h2⟩
  obtain ⟨_,_,_,hu⟩:=hu
  cases x with
  | func f a b =>
   cases y with
   | nilFunc=>obtain rfl:=Option.some.inj h;simp [Op.equalIn,run_underlying hu,AV.toV]
   | _=>cases h
  | nilFunc =>
   cases y with
   | nilFunc=>obtain rfl:=Option.some.inj h;simp [Op.equalIn,run_underlying hu,AV.toV]
   | func f a b=>obtain rfl:=Option.some.inj h;simp [Op.equalIn,run_underlying hu,AV.toV]
   | _=>cases h
  | _=>cases h
 | iface b =>
  rw [hk] at h
  have hu:∃ ms,P.underlying t=some (.interface ms):=by
   obtain ⟨d,h2,h3⟩:=uk_desc hT (by rw [hk];simp)
   rw [hk] at h3
   cases d <;> simp [ukOf] at h3
   exact ⟨_,h2⟩
  obtain ⟨_,hu⟩:=hu
  cases x with
  | iface t' v =>
   cases y with
   | nilIface=>obtain rfl:=Option.some.inj h;simp [Op.equalIn,run_underlying hu,AV.toV]
   | _=>cases h
  | nilIface =>
   cases y with
   | nilIface=>obtain rfl:=Option.some.inj h;simp [Op.equalIn,run_underlying hu,AV.toV]
   | iface t' v=>obtain rfl:=Option.some.inj h;simp [Op.equalIn,run_underlying hu,AV.toV]
   | _=>cases h
  | _=>cases h
 | other=>rw [hk] at h;cases h
theorem eqFields_ok (hE:TysOk P E) {rec:EqR} {xs ys:List AV} {d:Nat} (hrec:∀ t x y r,rec t x y=some r→∀ w,(Op.equalIn d t (x.toV ρ) (y.toV ρ)).run P w=.ok r w) :
 ∀ (fs:List Field) (r:Bool),(∀ f∈fs,f.name ≠ "_")→eqFields E rec xs ys (fs.map fun f=>(f.offset,f.type))=some r→∀ w,(Op.eqFields d ⟨toVs ρ xs⟩ ⟨toVs ρ ys⟩ fs).run P w=.ok r w:=by
 intro fs
 induction fs with
 | nil=>intro r _ h w;obtain rfl:true=r:=Option.some.inj h;rfl
 | cons f fs ih =>
  intro r hn h w
  have h:eqThen (obind (part E f.type xs f.offset) fun u=>obind (part E f.type ys f.offset) (rec f.type u)) (eqFields E rec xs ys (fs.map fun f=>(f.offset,f.type)))=some r:=h
  obtain ⟨b,hb,h⟩:=obind_some h
  obtain ⟨u,hu,hb⟩:=obind_some hb
  obtain ⟨v,hv,hb⟩:=obind_some hb
  have h1:=run_part' (P:=P) (ρ:=ρ) hE hu
  have h2:=run_part' (P:=P) (ρ:=ρ) hE hv
  have h3:=hrec _ _ _ _ hb
  have hne:=hn f (by simp)
  rw [sw_eq] at h
  simp only [Op.eqFields,if_pos hne,Sem.run_bind,h1,h2,h3,Result.andThen_ok]
  cases b with
  | true =>
   have h:eqFields E rec xs ys (fs.map fun f=>(f.offset,f.type))=some r:=by simpa using h
   simpa using ih r (fun f hf=>hn f (List.mem_cons_of_mem _ hf)) h w
  | false =>
   obtain rfl:false=r:=by simpa using h
   simp
theorem eqA_ok (hE:TysOk P E):∀ (n:Nat) (t:TypeId) (x y:AV) (r:Bool),eqA E n t x y=some r→∀ d,n≤d→∀ w,(Op.equalIn d t (x.toV ρ) (y.toV ρ)).run P w=.ok r w:=by
 intro n
 induction n with
 | zero=>intro t x y r h;cases h
 | succ n ih =>
  intro t x y r h d hd w
  obtain ⟨d,rfl⟩:∃ d',d=d'+1:=⟨d - 1,by omega⟩
  have h:obind (ukT E t) (eqStep E (eqA E n) x y)=some r:=h
  obtain ⟨u,hu,h⟩:=obind_some h
  obtain ⟨i,hi,rfl⟩:=ukT_some hu
  unfold eqStep at h
  rw [sw_eq] at h
  cases ha:i.uk.isAgg with
  | true =>
   rw [ha] at h
   have h:eqAgg E (eqA E n) x y i.uk=some r:=by simpa using h
   obtain ⟨xs,hx,h⟩:=obind_some h
   obtain ⟨ys,hy,h⟩:=obind_some h
   obtain ⟨p,hp,h⟩:=obind_some h
   obtain ⟨hpl,hF⟩:=grd_some h
   obtain rfl:=asAgg_some hx
   obtain rfl:=asAgg_some hy
   have hT:=hE.ty _ _ hi
   obtain ⟨fs,h1,h2,h3⟩:=uk_struct hT hp
   have hst:P.stoodInHeld t=false:=stood_of_plain (fs:=p.1) hT (by rw [hp,← hpl])
   have hf:P.fieldsOf t=fs:=by simp [Program.fieldsOf,h1]
   rw [h2] at hF
   rw [AV.toV,AV.toV,run_equalIn_agg w d t _ _ (by rw [hf];exact h1) hst,hf]
   refine eqFields_ok hE (fun t x y r h w=>ih t x y r h d (by omega) w) fs.toList r ?_ hF w
   rw [h3,List.all_eq_true] at hpl
   intro f hf
   have:=hpl f hf
   simpa using this
  | false =>
   rw [ha] at h
   have h:grd (solid E i.uk) (eqFlat i.uk x y)=some r:=by simpa using h
   obtain ⟨hs,h⟩:=grd_some h
   exact eqFlat_ok hE hi hs h d w
theorem keyOk_guard (hE:TysOk P E):∀ (n:Nat) (t:TypeId),keyOk E n t=true→∀ d,n≤d→P.eqGuardType d t=false:=by
 intro n
 induction n with
 | zero=>intro t h;cases h
 | succ n ih =>
  intro t h d hd
  obtain ⟨d,rfl⟩:∃ d',d=d'+1:=⟨d - 1,by omega⟩
  have h:oelim (ukT E t) false (keyUk (keyOk E n))=true:=h
  cases hu:ukT E t with
  | none=>rw [hu] at h;cases h
  | some u =>
   rw [hu] at h
   have h:keyUk (keyOk E n) u=true:=h
   obtain ⟨i,hi,rfl⟩:=ukT_some hu
   have hT:=hE.ty _ _ hi
   cases hk:i.uk with
   | bool =>
    obtain ⟨q,h2,h3⟩:=uk_desc hT (by rw [hk];simp)
    rw [hk] at h3
    cases q <;> simp [ukOf] at h3
    simp [Program.eqGuardType,h2]
   | int k=>simp [Program.eqGuardType,uk_int hT (k:=k) (by rw [hk];rfl)]
   | string=>simp [Program.eqGuardType,uk_str hT (by rw [hk];rfl)]
   | struct fs p =>
    rw [hk] at h
    have h:band p (lall (fun f=>keyOk E n f.2) fs)=true:=h
    rw [band_eq,Bool.and_eq_true,lall_iff] at h
    obtain ⟨gs,h1,h2,_⟩:=uk_struct hT (p:=(fs,p)) (by rw [hk];rfl)
    simp only [Program.eqGuardType,h1,Array.any_eq_false',Bool.and_eq_false_iff]
    simp only at h2
    subst h2
    intro f hf
    have:=ih f.type (h.2 (f.offset,f.type) (List.mem_map.2 ⟨f,by simpa using hf,rfl⟩)) d (by omega)
    simp [this]
   | _=>rw [hk] at h;cases h
theorem depth_ge (P:Program):202≤P.depth:=by unfold Program.depth Made.depth;omega
theorem isConst_iff {x:Operand} (h:isConst x=true):∃ v,x=.const v:=by cases x <;> first | exact ⟨_,rfl⟩ | cases h
theorem run_eqGuard (hE:TysOk P E) {op:BinOp} {t:TypeId} {x y:Operand} {a b:AV} (h1:aggOk E t a=true) (h2:nilsOk (bor (isConst x) (isConst y)) a b=true) (w:World) :
 (eqGuard op t x y (a.toV ρ) (b.toV ρ)).run P w=.ok () w:=by
 cases a with
 | agg xs =>
  have h1:bor (isNoneB (AV.agg xs).asAgg) (keyOk E 20 t)=true:=h1
  have h1:keyOk E 20 t=true:=h1
  have:=keyOk_guard hE 20 t h1 P.depth (by have:=depth_ge P;omega)
  cases b <;> first | exact run_eqGuard_agg w op t x y _ _ this | (cases op <;> simp [eqGuard,AV.toV])
 | nilIface =>
  cases b with
  | nilIface =>
   have h2:bor (bor (isConst x) (isConst y)) false=true:=h2
   rw [bor_eq,bor_eq,Bool.or_false,Bool.or_eq_true] at h2
   rcases h2 with h | h
   ·obtain ⟨v,rfl⟩:=isConst_iff h
    cases op <;> simp [eqGuard,AV.toV]
   ·obtain ⟨v,rfl⟩:=isConst_iff h
    cases op <;> cases x <;> simp [eqGuard,AV.toV]
  | _=>cases op <;> simp [eqGuard,AV.toV]
 | _=>cases b <;> cases op <;> simp [eqGuard,AV.toV]
theorem binE_ok (hE:TysOk P E) {op:BinOp} {t:TypeId} {x y:Operand} {a b v:AV} (hi:∀ k n,a≠.int k n) (hs:∀ s,a≠.str s) (h:binE E op t (bor (isConst x) (isConst y)) a b=some v) :
 v.inD D∧∀ w,(do eqGuard op t x y (a.toV ρ) (b.toV ρ);binOp op t (a.toV ρ) (b.toV ρ)).run P w=.ok (v.toV ρ) w:=by
 obtain ⟨hc,h⟩:=grd_some h
 rw [band_eq,Bool.and_eq_true] at hc
 obtain ⟨h1,h2⟩:=hc
 have hg:=fun w=>run_eqGuard (P:=P) (ρ:=ρ) hE (op:=op) (t:=t) (x:=x) (y:=y) h1 h2 w
 cases op with
 | eql =>
  obtain ⟨r,hr,rfl⟩:=omap_some h
  have he:=fun w=>eqA_ok (P:=P) (ρ:=ρ) hE 20 t a b r hr 10000 (by omega) w
  refine ⟨trivial,fun w=>?_⟩
  have hb:binOp .eql t (a.toV ρ) (b.toV ρ)=(do pure (.bool (← Op.equal t (a.toV ρ) (b.toV ρ))):Sem Value):=by
   cases a with
   | int k n=>exact absurd rfl (hi k n)
   | str s=>exact absurd rfl (hs s)
   | _=>simp only [AV.toV];cases b <;> rfl
  simp only [Sem.run_bind,hg,Result.andThen_ok,hb,Op.equal,Op.maxDepth,he,Sem.run_pure,AV.toV]
 | neq =>
  obtain ⟨r,hr,rfl⟩:=omap_some h
  have he:=fun w=>eqA_ok (P:=P) (ρ:=ρ) hE 20 t a b r hr 10000 (by omega) w
  refine ⟨trivial,fun w=>?_⟩
  have hb:binOp .neq t (a.toV ρ) (b.toV ρ)=(do pure (.bool (!(← Op.equal t (a.toV ρ) (b.toV ρ)))):Sem Value):=by
   cases a with
   | int k n=>exact absurd rfl (hi k n)
   | str s=>exact absurd rfl (hs s)
   | _=>simp only [AV.toV];cases b <;> rfl
  simp only [Sem.run_bind,hg,Result.andThen_ok,hb,Op.equal,Op.maxDepth,he,Sem.run_pure,AV.toV,bnot_eq]
 | _=>cases h
theorem sBin_ok (hE:TysOk P E) {op:BinOp} {t t':TypeId} {x y:Operand} {s:Sil} (hs:Sees ρ D fr ev [x,y]) (h:sBin op t x y t' E fr=some s) :
 SilV P ρ D (do eqGuard op t x y (ev x) (ev y);binOp op t (ev x) (ev y)) s:=by
 obtain ⟨a,ha,h⟩:=obind_some h
 obtain ⟨b,hb,h⟩:=obind_some h
 obtain ⟨v,hv,rfl⟩:=sv_some h
 obtain ⟨h1,h2⟩:=hs x (by simp) a ha
 obtain ⟨h3,h4⟩:=hs y (by simp) b hb
 rw [h1,h3]
 cases a with
 | int k a =>
  have hv:obind b.asInt (binII op k a)=some v:=hv
  obtain ⟨p,hp,hv⟩:=obind_some hv
  obtain ⟨hc,hF⟩:=grd_some hv
  have hp:=asInt_some hp
  subst hp
  rw [bor_eq,Bool.or_eq_true,kindEq_eq] at hc
  obtain ⟨h5,h6⟩:=intOp_ok (P:=P) (ρ:=ρ) (D:=D) (t:=t) (k':=p.1) (hc.imp id of_decide_eq_true) hF
  refine ⟨h5,fun w=>?_⟩
  have hg:(eqGuard op t x y (AV.toV ρ (.int k a)) (AV.toV ρ (.int p.1 p.2))).run P w=.ok () w:=by cases op <;> simp [eqGuard,AV.toV]
  simp only [Sem.run_bind,hg,Result.andThen_ok]
  exact h6 w
 | str a =>
  have hv:obind b.asStr (strOp op a)=some v:=hv
  obtain ⟨c,hc,hF⟩:=obind_some hv
  have hc:=asStr_some hc
  subst hc
  obtain ⟨h5,h6⟩:=strOp_ok (P:=P) (ρ:=ρ) (D:=D) (t:=t) hF
  refine ⟨h5,fun w=>?_⟩
  have hg:(eqGuard op t x y (AV.toV ρ (.str a)) (AV.toV ρ (.str c))).run P w=.ok () w:=by cases op <;> simp [eqGuard,AV.toV]
  simp only [Sem.run_bind,hg,Result.andThen_ok]
  exact h6 w
 | tuple vs=>cases hv
 | _ =>
  have:=binE_ok (P:=P) (ρ:=ρ) (D:=D) hE (x:=x) (y:=y) (fun k n e=>by cases e) (fun s e=>by cases e) hv
  exact this
theorem sUn_ok {op:UnOp} {t:TypeId} {x:Operand} {s:Sil} (hs:Sees ρ D fr ev [x]) (h:sUn op t x E fr=some s):SilV P ρ D (Op.unary op (ev x)) s:=by
 obtain ⟨v,hv,rfl⟩:=sv_some h
 obtain ⟨a,ha,hv⟩:=obind_some hv
 obtain ⟨h1,h2⟩:=hs x (by simp) a ha
 rw [h1]
 cases op with
 | neg =>
  have hv:obind a.asInt negI=some v:=hv
  obtain ⟨p,hp,hF⟩:=obind_some hv
  have hp:=asInt_some hp
  subst hp
  obtain rfl:=Option.some.inj hF
  refine ⟨trivial,fun w=>?_⟩
  simp only [Op.unary,AV.toV,Op.intArith,Sem.run_pure,wrapF_eq,subF_eq]
 | not =>
  have hv:omap (fun b=>AV.bool (bnot b)) a.asBool=some v:=hv
  obtain ⟨b,hb,rfl⟩:=omap_some hv
  obtain rfl:=asBool_some hb
  refine ⟨trivial,fun w=>?_⟩
  simp only [Op.unary,AV.toV,Sem.run_pure,bnot_eq]
 | xor=>cases hv
 | plus=>cases hv
end
end Go.Ev
namespace Go.Ev
section
variable {P:Program} {E:Env} {ρ:Ren} {D:Dom} {fr:Fr} {ev:Operand→Value}
theorem run_getObj_map' {w:World} {r:Nat} {es:Array MapEntry} {clock:Nat} (hb:w.heap[r]? = some (.map es clock)):(getObj r).run P w=.ok (.map es clock) w:=by simp [getObj,Sem.run,hb]
theorem forIn_unit {α:Type} (l:List α) (g:α→PUnit→Sem (ForInStep PUnit)) (w:World) (h:∀ a∈l,(g a PUnit.unit).run P w=.ok (ForInStep.yield PUnit.unit) w) :
 (forIn l PUnit.unit g:Sem PUnit).run P w=.ok PUnit.unit w:=by
 induction l with
 | nil=>rfl
 | cons a l ih =>
  simp only [List.forIn_cons,Sem.run_bind,h a (by simp),Result.andThen_ok]
  exact ih fun a ha=>h a (List.mem_cons_of_mem _ ha)
theorem checkKey_ok (hE:TysOk P E):∀ (n:Nat) (t:TypeId) (v:AV),keyOk E n t=true→fitsA E n t v=true→∀ (em:Bool) (d:Nat),n≤d→∀ w,(Instr.checkKey em d t (v.toV ρ)).run P w=.ok () w:=by
 intro n
 induction n with
 | zero=>intro t v h;cases h
 | succ n ih =>
  intro t v h hf em d hd w
  obtain ⟨d,rfl⟩:∃ d',d=d'+1:=⟨d - 1,by omega⟩
  have h:oelim (ukT E t) false (keyUk (keyOk E n))=true:=h
  have hf:oelim (ukT E t) false (fitU E (fitsA E n) v)=true:=hf
  cases hu:ukT E t with
  | none=>rw [hu] at h;cases h
  | some u =>
   rw [hu] at h hf
   have h:keyUk (keyOk E n) u=true:=h
   have hf:fitU E (fitsA E n) v u=true:=hf
   obtain ⟨i,hi,rfl⟩:=ukT_some hu
   have hT:=hE.ty _ _ hi
   cases hk:i.uk with
   | bool =>
    obtain ⟨q,h2,h3⟩:=uk_desc hT (by rw [hk];simp)
    rw [hk] at h3
    cases q <;> simp [ukOf] at h3
    simp [Instr.checkKey,run_underlying h2]
   | int k=>simp [Instr.checkKey,run_underlying (uk_int hT (k:=k) (by rw [hk];rfl))]
   | string=>simp [Instr.checkKey,run_underlying (uk_str hT (by rw [hk];rfl))]
   | struct fs p =>
    rw [hk] at h hf
    have h:band p (lall (fun f=>keyOk E n f.2) fs)=true:=h
    rw [band_eq,Bool.and_eq_true,lall_iff] at h
    obtain ⟨gs,h1,h2,_⟩:=uk_struct hT (p:=(fs,p)) (by rw [hk];rfl)
    simp only at h2
    have hf:oelim v.asAgg false (fun cs=>lall (fun f=>oelim (part E f.2 cs f.1) false (fitsA E n f.2)) fs)=true:=hf
    cases hv:v.asAgg with
    | none=>rw [hv] at hf;cases hf
    | some cs =>
     rw [hv] at hf
     have hf:lall (fun f=>oelim (part E f.2 cs f.1) false (fitsA E n f.2)) fs=true:=hf
     rw [lall_iff] at hf
     have hG:=hf
     clear hf
     have hv:=asAgg_some hv
     subst hv
     simp only [Instr.checkKey,Sem.run_bind,run_underlying h1,Result.andThen_ok,AV.toV]
     rw [← Array.forIn_toList,forIn_unit]
     ·rfl
     intro f hfm
     have hm:(f.offset,f.type)∈fs:=by rw [h2];exact List.mem_map.2 ⟨f,hfm,rfl⟩
     have h5:=hG _ hm
     have h6:=h.2 _ hm
     cases hp:part E f.type cs f.offset with
     | none=>rw [hp] at h5;cases h5
     | some u =>
      rw [hp] at h5
      have h5:fitsA E n f.type u=true:=h5
      have h7:=run_part' (P:=P) (ρ:=ρ) hE hp
      have h8:=ih f.type u h6 h5 em d (by omega)
      by_cases hn:f.name = "_"
      ·simp [hn]
      ·simp only [ne_eq,hn,not_false_eq_true,if_true,Sem.run_bind,h7,Result.andThen_ok,h8,Sem.run_pure]
   | _=>rw [hk] at h;cases h
theorem sameNow_equal {t:TypeId} {d:TypeDesc} {a b:Value} {r:Bool} (hd:P.underlying t=some d) (h:Instr.sameNow d a b=some r) (w:World):(Op.equal t a b).run P w=.ok r w:=by
 unfold Op.equal Op.maxDepth
 cases d with
 | bool =>
  cases a <;> cases b <;> simp [Instr.sameNow] at h
  rename_i x y
  rw [← h]
  exact run_equalIn_bool' w _ t x y hd
 | int k =>
  cases a <;> cases b <;> simp [Instr.sameNow] at h
  rename_i k1 x k2 y
  obtain ⟨rfl,rfl⟩:=h
  exact run_equalIn_int w _ t _ _ x y hd
 | string =>
  cases a <;> cases b <;> simp [Instr.sameNow] at h
  rename_i x y
  have:=run_equalIn_string (P:=P) w 9999 t x y hd
  rw [this,← h,beq_toListBytes]
 | _=>simp [Instr.sameNow] at h
theorem findNow_asking {t:TypeId} {d:TypeDesc} {k:Value} {w:World} (hd:P.underlying t=some d):∀ (es:List MapEntry) (i:Nat) (r:Option (Nat×Value)),Instr.findNow d k es i=some r→(Instr.findAsking t k es i).run P w=.ok r w:=by
 intro es
 induction es with
 | nil=>intro i r h;obtain rfl:none=r:=Option.some.inj h;rfl
 | cons e es ih =>
  intro i r h
  unfold Instr.findNow at h
  cases hs:Instr.sameNow d k e.key with
  | none=>rw [hs] at h;cases h
  | some b =>
   rw [hs] at h
   have hq:=sameNow_equal (P:=P) hd hs w
   cases b with
   | true =>
    obtain rfl:=Option.some.inj h
    simp [Instr.findAsking,hq]
   | false =>
    have:=ih (i+1) r h
    simp [Instr.findAsking,hq,this]
def foundV (ρ:Ren) (f:Option (Nat×AV)):Option (Nat×Value):=f.map fun p=>(p.1,p.2.toV ρ)
theorem findA_ok (hE:TysOk P E) {t:TypeId} {key:AV} {w:World}:∀ (es:List Ent) (i:Nat) (f:Option (Nat×AV)),findA E t key es i=some f→(Instr.findAsking t (key.toV ρ) (es.map (entV ρ)) i).run P w=.ok (foundV ρ f) w:=by
 intro es
 induction es with
 | nil=>intro i f h;obtain rfl:none=f:=Option.some.inj h;rfl
 | cons e es ih =>
  intro i f h
  have h:obind (eqA E 20 t key e.1) (fun b=>sw b (some (some (i,e.2.1))) (findA E t key es (i+1)))=some f:=h
  obtain ⟨b,hb,h⟩:=obind_some h
  have hq:=eqA_ok (P:=P) (ρ:=ρ) hE 20 t key e.1 b hb 10000 (by omega) w
  rw [sw_eq] at h
  cases b with
  | true =>
   have h:some (some (i,e.2.1))=some f:=by simpa using h
   obtain rfl:=Option.some.inj h
   simp [Instr.findAsking,Op.equal,Op.maxDepth,entV,hq,foundV]
  | false =>
   have h:findA E t key es (i+1)=some f:=by simpa using h
   have:=ih (i+1) f h
   simp [Instr.findAsking,Op.equal,Op.maxDepth,entV,hq,this]
theorem findKey_ok (hE:TysOk P E) {t:TypeId} {key:AV} {w:World} {es:List Ent} {f:Option (Nat×AV)} {d:TypeDesc} (hd:P.underlying t=some d) (h:findA E t key es 0=some f) :
 (Instr.findKey t (key.toV ρ) (es.map (entV ρ))).run P w=.ok (foundV ρ f) w:=by
 have ha:=findA_ok (P:=P) (ρ:=ρ) (w:=w) hE es 0 f h
 simp only [Instr.findKey,Sem.run_bind,run_underlying hd,Result.andThen_ok]
 cases hn:Instr.findNow d (key.toV ρ) (es.map (entV ρ)) 0 with
 | none=>simp only [ha]
 | some r =>
  have:=findNow_asking (P:=P) (w:=w) hd _ 0 r hn
  rw [ha] at this
  simp only [Sem.run_pure]
  rw [← this]
end
end Go.Ev
namespace Go.Ev
section
variable {P:Program} {E:Env} {ρ:Ren} {D:Dom} {fr:Fr} {ev:Operand→Value}
theorem foundOr_ok (hE:TysOk P E) {et:TypeId} {ok:Bool} {f:Option (Nat×AV)} {v:AV} (h:foundOr E et ok f=some v) (hd:∀ p,f=some p→p.2.inD D) :
 v.inD D∧∀ w,(do
  let (v,b) ← match foundV ρ f with
   | some (_,v)=>pure (v,true)
   | none=>pure (← zeroValue et,false)
  pure (if ok then .tuple #[v,.bool b] else v):Sem Value).run P w=.ok (v.toV ρ) w:=by
 cases f with
 | none =>
  have h:omap (fun z=>commaOk ok z false) (obind (E.ty.get et) TI.zero)=some v:=h
  obtain ⟨z,hz,rfl⟩:=omap_some h
  obtain ⟨i,hi,hz⟩:=obind_some hz
  have hT:=hE.ty _ _ hi
  have h1:=run_zeroValue (P:=P) hT hz ρ
  have h2:=zero_ok hT hz D
  unfold commaOk
  rw [sw_eq]
  cases ok with
  | true=>exact ⟨⟨h2,trivial,trivial⟩,fun w=>by simp [foundV,h1,AV.toV,toVs]⟩
  | false=>exact ⟨h2,fun w=>by simp [foundV,h1]⟩
 | some p =>
  obtain rfl:=Option.some.inj h
  have h2:=hd p rfl
  unfold commaOk
  rw [sw_eq]
  cases ok with
  | true=>exact ⟨⟨h2,trivial,trivial⟩,fun w=>by simp [foundV,AV.toV,toVs]⟩
  | false=>exact ⟨h2,fun w=>by simp [foundV]⟩
theorem findA_mem (E:Env) {t:TypeId} {key:AV}:∀ (es:List Ent) (i:Nat) (p:Nat×AV),findA E t key es i=some (some p)→∃ e∈es,i≤p.1∧es[p.1 - i]? = some e∧e.2.1=p.2:=by
 intro es
 induction es with
 | nil=>intro i p h;cases Option.some.inj h
 | cons e es ih =>
  intro i p h
  have h:obind (eqA E 20 t key e.1) (fun b=>sw b (some (some (i,e.2.1))) (findA E t key es (i+1)))=some (some p):=h
  obtain ⟨b,hb,h⟩:=obind_some h
  rw [sw_eq] at h
  cases b with
  | true =>
   have h:some (some (i,e.2.1))=some (some p):=by simpa using h
   obtain rfl:=Option.some.inj (Option.some.inj h)
   exact ⟨e,by simp,Nat.le_refl _,by simp,rfl⟩
  | false =>
   have h:findA E t key es (i+1)=some (some p):=by simpa using h
   obtain ⟨e',h1,h2,h3,h4⟩:=ih (i+1) p h
   refine ⟨e',List.mem_cons_of_mem _ h1,by omega,?_,h4⟩
   have:p.1 - i=(p.1 - (i+1))+1:=by omega
   rw [this,List.getElem?_cons_succ]
   exact h3
theorem keyOk_desc (hE:TysOk P E) {n:Nat} {t:TypeId} (h:keyOk E n t=true):∃ d,P.underlying t=some d:=by
 cases n with
 | zero=>cases h
 | succ n =>
  have h:oelim (ukT E t) false (keyUk (keyOk E n))=true:=h
  cases hu:ukT E t with
  | none=>rw [hu] at h;cases h
  | some u =>
   rw [hu] at h
   have h:keyUk (keyOk E n) u=true:=h
   obtain ⟨i,hi,rfl⟩:=ukT_some hu
   obtain ⟨d,hd,_⟩:=uk_desc (hE.ty _ _ hi) (by intro e;rw [e] at h;cases h)
   exact ⟨d,hd⟩
theorem lookupIn_ok (hE:TysOk P E) {p:TypeId×TypeId} {ok:Bool} {key v:AV} {es:List Ent} (hk:keyOk E 20 p.1=true) (hf:fitsA E 20 p.1 key=true) (hd:∀ e∈es,e.1.inD D∧e.2.1.inD D)
 (h:lookupIn E p ok key es=some v):v.inD D∧∀ (em:Bool) w,(do
  Instr.checkKey em 10000 p.1 (key.toV ρ)
  let (v,b) ← match ← Instr.findKey p.1 (key.toV ρ) (es.map (entV ρ)) with
   | some (_,v)=>pure (v,true)
   | none=>pure (← zeroValue p.2,false)
  pure (if ok then .tuple #[v,.bool b] else v):Sem Value).run P w=.ok (v.toV ρ) w:=by
 obtain ⟨f,hfa,h⟩:=obind_some h
 obtain ⟨d,hdesc⟩:=keyOk_desc hE hk
 have h1:=fun em w=>checkKey_ok (P:=P) (ρ:=ρ) hE 20 p.1 key hk hf em 10000 (by omega) w
 have h2:=fun w=>findKey_ok (P:=P) (ρ:=ρ) (w:=w) hE hdesc hfa
 obtain ⟨h3,h4⟩:=foundOr_ok (P:=P) (ρ:=ρ) (D:=D) hE h (fun q hq=>by
  subst hq
  obtain ⟨e,he,_,_,h5⟩:=findA_mem E es 0 q hfa
  rw [← h5]
  exact (hd e he).2)
 refine ⟨h3,fun em w=>?_⟩
 have h4:=h4 w
 simp only [Sem.run_bind,h1,h2,Result.andThen_ok] at h4 ⊢
 exact h4
theorem sLookup_ok (hE:TysOk P E) {t:TypeId} {x ix:Operand} {ok:Bool} {s:Sil} (hs:Sees ρ D fr ev [x,ix]) (h:sLookup t x ix ok E fr=some s):SilV P ρ D (Instr.lookup t (ev x) (ev ix) ok) s:=by
 obtain ⟨p,hp,h⟩:=obind_some h
 obtain ⟨u,hu,hp⟩:=obind_some hp
 obtain ⟨i,hi,rfl⟩:=ukT_some hu
 obtain ⟨hk,h⟩:=grd_some h
 obtain ⟨r,hr,h⟩:=obind_some h
 obtain ⟨xv,hxv,hr⟩:=obind_some hr
 obtain ⟨key,hkey,h⟩:=obind_some h
 obtain ⟨hf,hF⟩:=grd_some h
 have hr:=asMap_some hr
 subst hr
 obtain ⟨h1,h2⟩:=hs x (by simp) _ hxv
 obtain ⟨h3,h4⟩:=hs ix (by simp) _ hkey
 have hT:=uk_map (hE.ty _ _ hi) hp
 rw [h1,h3]
 cases r with
 | none =>
  obtain ⟨v,hv,rfl⟩:=sv_some (x:=lookupIn E p ok key []) hF
  obtain ⟨h5,h6⟩:=lookupIn_ok (P:=P) (ρ:=ρ) (D:=D) hE hk hf (by simp) hv
  refine ⟨h5,fun w=>?_⟩
  have h6:=h6 true w
  simp only [Instr.lookup,AV.toV,Option.map_none,Sem.run_bind,run_underlying hT,Result.andThen_ok,Sem.run_pure] at h6 ⊢
  exact h6
 | some n =>
  obtain rfl:Sil.read n (lookupObj E p ok key)=s:=Option.some.inj hF
  refine ⟨h2,fun ob v hob hv=>?_⟩
  obtain ⟨q,hq,hv⟩:=obind_some hv
  cases ob with
  | map es clock =>
   obtain rfl:=Option.some.inj hq
   obtain ⟨h5,h6⟩:=lookupIn_ok (P:=P) (ρ:=ρ) (D:=D) hE hk hf hob hv
   refine ⟨h5,fun w hw=>?_⟩
   have h6:=h6 ((es.map (entV ρ)).toArray.isEmpty) w
   have hg:=run_getObj_map' (P:=P) hw
   simp only [Instr.lookup,AV.toV,Option.map_some,blkOf,Sem.run_bind,run_underlying hT,Result.andThen_ok,Sem.run_pure,hg] at h6 ⊢
   exact h6
  | _=>cases hq
theorem sTypeAssert_ok (hE:TysOk P E) {t t':TypeId} {x:Operand} {ok:Bool} {s:Sil} (hs:Sees ρ D fr ev [x]) (h:sTypeAssert x t' t ok E fr=some s):SilV P ρ D (Instr.typeAssert (ev x) t' t ok) s:=by
 obtain ⟨i,hi,h⟩:=obind_some h
 obtain ⟨hc,h⟩:=grd_some h
 obtain ⟨v,hv,rfl⟩:=sv_some h
 obtain ⟨xv,hxv,hv⟩:=obind_some hv
 obtain ⟨h1,h2⟩:=hs x (by simp) _ hxv
 rw [h1]
 have hT:=hE.ty _ _ hi
 cases xv with
 | iface u y =>
  have hv:assertI t ok i.zero u y=some v:=hv
  unfold assertI at hv
  rw [sw_eq,nbeq_eq] at hv
  have hnd:∃ d,P.underlying t=some d∧∀ ms,d≠.interface ms:=by
   rcases hT.uk with e | ⟨d,hd,hk⟩
   ·rw [e] at hc;cases hc
   ·refine ⟨d,hd,fun ms e=>?_⟩
    rw [hk,e] at hc
    cases hc
  obtain ⟨d,hd,hnd⟩:=hnd
  by_cases he:u=t
  ·simp only [he,decide_true,if_true] at hv
   obtain rfl:=Option.some.inj hv
   unfold commaOk
   rw [sw_eq]
   subst he
   cases ok with
   | true =>
    refine ⟨⟨h2,trivial,trivial⟩,fun w=>?_⟩
    cases d <;> first | exact absurd rfl (hnd _) | simp [Instr.typeAssert,run_underlying hd,AV.toV,toVs]
   | false =>
    refine ⟨h2,fun w=>?_⟩
    cases d <;> first | exact absurd rfl (hnd _) | simp [Instr.typeAssert,run_underlying hd,AV.toV]
  ·simp only [he,decide_false,Bool.false_eq_true,if_false] at hv
   obtain ⟨hok,hv⟩:=grd_some hv
   obtain ⟨z,hz,rfl⟩:=omap_some hv
   subst hok
   have h1:=run_zeroValue (P:=P) hT hz ρ
   have h2:=zero_ok hT hz D
   unfold commaOk
   rw [sw_eq]
   refine ⟨⟨h2,trivial,trivial⟩,fun w=>?_⟩
   cases d <;> first | exact absurd rfl (hnd _) | simp [Instr.typeAssert,run_underlying hd,AV.toV,toVs,he,h1]
 | _=>cases hv
end
end Go.Ev
namespace Go.Ev
section
variable {P:Program} {E:Env} {ρ:Ren} {D:Dom} {fr:Fr} {ev:Operand→Value}
theorem args_get {args:Array Operand} {vs:List AV} {i:Nat} {v:AV} (h:args.toList.map ev=toVs ρ vs) (hv:vs[i]? = some v):(args.map ev)[i]? = some (v.toV ρ):=by
 have:(args.map ev).toList=toVs ρ vs:=by rw [Array.toList_map,h]
 rw [← Array.getElem?_toList,this]
 exact toVs_get hv
theorem ukArg_some {ts:Array TypeId} {u:UK} (h:ukArg E ts.toList=some u):∃ t i,ts[0]? = some t∧E.ty.get t=some i∧i.uk=u:=by
 obtain ⟨t,ht,hu⟩:=obind_some h
 obtain ⟨i,hi,rfl⟩:=ukT_some hu
 rw [lget_eq] at ht
 exact ⟨t,i,by simpa using ht,hi,rfl⟩
theorem bsLen_ok (hE:TysOk P E) {ts:Array TypeId} {ty:TypeId} {args:Array Operand} {vs:List AV} {s:Sil} (ha:args.toList.map ev=toVs ρ vs) (hd:allIn D vs) (h:bsLen E ts.toList vs=some s) :
 SilV P ρ D (Builtin.len_ ts ty (args.map ev)) s:=by
 obtain ⟨u,hu,h⟩:=obind_some h
 obtain ⟨v,hv,h⟩:=obind_some h
 obtain ⟨t,i,ht,hi,rfl⟩:=ukArg_some hu
 rw [lget_eq] at hv
 have hg:=args_get ha hv
 have hdv:=allIn_get hd hv
 have hT:=hE.ty _ _ hi
 cases v with
 | str b =>
  obtain ⟨hc,hF⟩:=grd_some (show grd i.uk.isStr (some (.val (lenInt (llen b))))=some s from h)
  obtain rfl:=Option.some.inj hF
  have hT:=uk_str hT hc
  refine ⟨trivial,fun w=>?_⟩
  simp [Builtin.len_,ht,hg,run_underlying hT,AV.toV,lenInt,llen_eq,goInt]
  rfl
 | slice a n c o =>
  obtain ⟨hc,hF⟩:=grd_some (show grd (bnot (isNoneB i.uk.asSlice)) (some (.val (lenInt n)))=some s from h)
  obtain rfl:=Option.some.inj hF
  cases hsl:i.uk.asSlice with
  | none=>rw [hsl] at hc;cases hc
  | some e =>
   have hT:=uk_slice hT hsl
   refine ⟨trivial,fun w=>?_⟩
   simp [Builtin.len_,ht,hg,run_underlying hT,AV.toV,lenInt,goInt]
 | sliceE n o0 o1 o =>
  obtain ⟨hc,hF⟩:=grd_some (show grd (bnot (isNoneB i.uk.asSlice)) (some (.val (lenInt 0)))=some s from h)
  obtain rfl:=Option.some.inj hF
  cases hsl:i.uk.asSlice with
  | none=>rw [hsl] at hc;cases hc
  | some e =>
   have hT:=uk_slice hT hsl
   refine ⟨trivial,fun w=>?_⟩
   simp [Builtin.len_,ht,hg,run_underlying hT,AV.toV,lenInt,goInt]
 | map r =>
  obtain ⟨hc,hF⟩:=grd_some (show grd (bnot (isNoneB i.uk.asMap)) (mapLenR r)=some s from h)
  cases hsl:i.uk.asMap with
  | none=>rw [hsl] at hc;cases hc
  | some e =>
   have hT:=uk_map hT hsl
   cases r with
   | none =>
    obtain rfl:Sil.val (lenInt 0)=s:=Option.some.inj hF
    refine ⟨trivial,fun w=>?_⟩
    simp [Builtin.len_,ht,hg,run_underlying hT,AV.toV,lenInt,goInt]
   | some n =>
    obtain rfl:Sil.read n mapLen=s:=Option.some.inj hF
    refine ⟨hdv,fun ob v hob hv=>?_⟩
    cases ob with
    | map es clock =>
     obtain rfl:lenInt (llen es)=v:=Option.some.inj hv
     refine ⟨trivial,fun w hw=>?_⟩
     have hgo:=run_getObj_map' (P:=P) hw
     simp [Builtin.len_,ht,hg,run_underlying hT,AV.toV,blkOf,hgo,lenInt,llen_eq,goInt]
    | _=>cases hv
 | _=>cases h
theorem bsCap_ok (hE:TysOk P E) {ts:Array TypeId} {ty:TypeId} {args:Array Operand} {vs:List AV} {s:Sil} (ha:args.toList.map ev=toVs ρ vs) (h:bsCap E ts.toList vs=some s) :
 SilV P ρ D (Builtin.cap_ ts ty (args.map ev)) s:=by
 obtain ⟨u,hu,h⟩:=obind_some h
 obtain ⟨x,hx,rfl⟩:=sv_some h
 obtain ⟨v,hv,hx⟩:=obind_some hx
 obtain ⟨t,i,ht,hi,rfl⟩:=ukArg_some hu
 rw [lget_eq] at hv
 have hg:=args_get ha hv
 have hT:=hE.ty _ _ hi
 cases v with
 | slice a n c o =>
  obtain ⟨hc,hF⟩:=grd_some (show grd (band (bnot o) (bnot (isNoneB i.uk.asSlice))) (some (lenInt c))=some x from hx)
  obtain rfl:=Option.some.inj hF
  rw [band_eq,Bool.and_eq_true] at hc
  obtain ⟨ho,hc⟩:=hc
  have ho:o=false:=by cases o <;> first | rfl | cases ho
  subst ho
  cases hsl:i.uk.asSlice with
  | none=>rw [hsl] at hc;cases hc
  | some e =>
   have hT:=uk_slice hT hsl
   refine ⟨trivial,fun w=>?_⟩
   simp [Builtin.cap_,ht,hg,run_underlying hT,AV.toV,lenInt,goInt]
 | _=>cases hx
theorem args_two {args:Array Operand} {a b:AV} (ha:args.toList.map ev=toVs ρ [a,b]):args.map ev=#[a.toV ρ,b.toV ρ]:=by
 apply Array.ext'
 rw [Array.toList_map,ha]
 rfl
theorem two_some {f:IntKind×Int→IntKind×Int→Option AV} {vs:List AV} {v:AV} (h:two f vs=some v):∃ k a l b,vs=[.int k a,.int l b]∧f (k,a) (l,b)=some v:=by
 obtain ⟨hc,h⟩:=grd_some h
 obtain ⟨p,hp,h⟩:=obind_some h
 obtain ⟨q,hq,h⟩:=obind_some h
 obtain ⟨x,hx,hp⟩:=obind_some hp
 obtain ⟨y,hy,hq⟩:=obind_some hq
 rw [nbeq_eq,llen_eq] at hc
 have hc:vs.length=2:=of_decide_eq_true hc
 rw [lget_eq] at hx hy
 have hp:=asInt_some hp
 have hq:=asInt_some hq
 subst hp hq
 match vs,hc with
 | [a,b],_ =>
  obtain rfl:a=_:=Option.some.inj hx
  obtain rfl:b=_:=Option.some.inj hy
  exact ⟨p.1,p.2,q.1,q.2,rfl,h⟩
theorem bsMax_ok {ts:Array TypeId} {ty:TypeId} {args:Array Operand} {vs:List AV} {s:Sil} (ha:args.toList.map ev=toVs ρ vs) (h:bsMax E ts.toList vs=some s):SilV P ρ D (Builtin.max_ ts ty (args.map ev)) s:=by
 obtain ⟨v,hv,rfl⟩:=sv_some h
 obtain ⟨k,a,l,b,rfl,hf⟩:=two_some hv
 obtain rfl:AV.int k (sw (ilt a b) b a)=v:=Option.some.inj hf
 refine ⟨trivial,fun w=>?_⟩
 rw [args_two ha,sw_eq,ilt_eq]
 simp [Builtin.max_,Builtin.max2,AV.toV]
theorem bsMin_ok {ts:Array TypeId} {ty:TypeId} {args:Array Operand} {vs:List AV} {s:Sil} (ha:args.toList.map ev=toVs ρ vs) (h:bsMin E ts.toList vs=some s):SilV P ρ D (Builtin.min_ ts ty (args.map ev)) s:=by
 obtain ⟨v,hv,rfl⟩:=sv_some h
 obtain ⟨k,a,l,b,rfl,hf⟩:=two_some hv
 obtain rfl:AV.int k (sw (ilt b a) b a)=v:=Option.some.inj hf
 refine ⟨trivial,fun w=>?_⟩
 rw [args_two ha,sw_eq,ilt_eq]
 simp [Builtin.min_,Builtin.min2,AV.toV]
theorem uData_match {motive:Array Value→Type} (a:Addr) (n c:Nat) (h1:∀ len cap,motive #[.slice none len cap]) (h2:∀ a len c,motive #[.slice (some a) len c]) (h3:∀ x,motive x) :
 Go.Builtin.unsafeSliceData_.match_1 motive #[.slice (some a) n c] h1 h2 h3=h2 a n c:=rfl
theorem bsData_ok {ts:Array TypeId} {ty:TypeId} {args:Array Operand} {vs:List AV} {s:Sil} (ha:args.toList.map ev=toVs ρ vs) (hd:allIn D vs) (h:bsData E ts.toList vs=some s) :
 SilV P ρ D (Builtin.unsafeSliceData_ ts ty (args.map ev)) s:=by
 obtain ⟨hc,h⟩:=grd_some h
 obtain ⟨v,hv,rfl⟩:=sv_some h
 obtain ⟨x,hx,hv⟩:=obind_some hv
 rw [nbeq_eq,llen_eq] at hc
 have hc:vs.length=1:=of_decide_eq_true hc
 rw [lget_eq] at hx
 match vs,hc,hx,hd,ha with
 | [y],_,hx,hd,ha =>
  obtain rfl:y=x:=Option.some.inj hx
  have hm:args.map ev=#[y.toV ρ]:=by
   apply Array.ext'
   rw [Array.toList_map,ha]
   rfl
  rw [hm]
  cases y with
  | slice a n c o =>
   have hv:dataOf a n c o=some v:=hv
   cases a with
   | none =>
    obtain rfl:AV.ptr none=v:=Option.some.inj hv
    exact ⟨trivial,fun w=>rfl⟩
   | some a =>
    obtain ⟨h0,hF⟩:=grd_some (show grd (nlt 0 c) (some (.ptr (some a)))=some v from hv)
    obtain rfl:=Option.some.inj hF
    rw [nlt_eq] at h0
    have h0:0<c:=of_decide_eq_true h0
    refine ⟨hd.1,fun w=>?_⟩
    have hne:c+(if o then roomOf ρ (some a) else 0)≠0:=by omega
    simp only [AV.toV,Option.map_some]
    delta Builtin.unsafeSliceData_
    rw [uData_match,if_pos hne]
    rfl
  | _=>cases hv
theorem sNilCheck_ok {x:Operand} {o:Oper} {s:Sil} (ho:o.op=.nilCheck x) (hs:Sees ρ D fr ev [x]) (h:sNilCheck x E fr=some s):∃ S:Sem Value,(∀ w,(execOp ev o).run P w=(S.run P w).andThen fun v w'=>.ok (.value v) w')∧SilV P ρ D S s:=by
 obtain ⟨v,hv,rfl⟩:=sv_some h
 obtain ⟨y,hy,hv⟩:=obind_some hv
 obtain ⟨h1,h2⟩:=hs x (by simp) _ hy
 obtain ⟨rfl,hc⟩:=nilOk_ok hv
 refine ⟨pure (v.toV ρ),fun w=>?_,h2,fun w=>rfl⟩
 rcases hc with ⟨a,rfl⟩ | ⟨f,a,b,rfl⟩ | ⟨t,u,rfl⟩ <;> simp [execOp,ho,h1,AV.toV]
theorem silF_ok (hE:TysOk P E) {o:Oper} {s:Sil} (hs:Sees ρ D fr ev o.op.operands.toList) (h:silF o.op E fr=some s) :
 s=.loud∨∃ S:Sem Value,(∀ w,(execOp ev o).run P w=(S.run P w).andThen fun v w'=>.ok (.value v) w')∧SilV P ρ D S s:=by
 have hdep:21≤P.depth:=by have:=depth_ge P;omega
 obtain ⟨dst,op,type,pos,after,guard⟩:=o
 cases op with
 | move x=>exact .inr ⟨_,fun w=>rfl,sMove_ok (E:=E) hs h⟩
 | assign x=>exact .inl (Option.some.inj h).symm
 | pick c a b=>exact .inr ⟨_,fun w=>by simp only [execOp,Sem.run_bind,Sem.run_pure];cases (asBool (ev c)).run P w <;> rfl,sPick_ok (E:=E) hs h⟩
 | alloc e=>exact .inr ⟨_,fun w=>by simp only [execOp,Sem.run_bind,Sem.run_pure],sAlloc_ok (fr:=fr) hE h⟩
 | box e x=>exact .inr ⟨_,fun w=>by simp only [execOp,Sem.run_bind,Sem.run_pure],sBox_ok (E:=E) hs h⟩
 | build t parts=>exact .inr ⟨_,fun w=>by simp only [execOp,Sem.run_bind,Sem.run_pure],sBuild_ok hE hs h⟩
 | buildSlice t len parts=>exact .inr ⟨_,fun w=>by simp only [execOp,Sem.run_bind,Sem.run_pure],sBuildSlice_ok hE hs h⟩
 | insert t m k x=>exact .inl (Option.some.inj h).symm
 | load t x=>exact .inr ⟨_,fun w=>by simp only [execOp,Sem.run_bind,Sem.run_pure],sLoad_ok hE hs h⟩
 | store t a x=>exact .inl (Option.some.inj h).symm
 | ready g=>cases h
 | waits g=>cases h
 | nilCheck x=>exact .inr (sNilCheck_ok (E:=E) rfl hs h)
 | binOp op t x y t'=>exact .inr ⟨_,fun w=>by simp only [execOp,Sem.run_bind,Sem.run_pure],sBin_ok (t':=t') hE hs h⟩
 | unOp op t x=>exact .inr ⟨_,fun w=>by simp only [execOp,Sem.run_bind,Sem.run_pure],sUn_ok (E:=E) (t:=t) hs h⟩
 | convert src dst x=>exact .inr ⟨_,fun w=>by simp only [execOp,Sem.run_bind,Sem.run_pure],sConvert_ok hE hdep hs h⟩
 | sliceToArrayPointer=>cases h
 | makeInterface t x=>exact .inr ⟨_,fun w=>by simp only [execOp,Sem.run_bind,Sem.run_pure],sMakeInterface_ok hE hs h⟩
 | makeFunc fn first captured=>exact .inr ⟨_,fun w=>by simp only [execOp,Sem.run_bind,Sem.run_pure],sMakeFunc_ok (E:=E) hs h⟩
 | makeMap t r=>exact .inr ⟨Instr.makeMap t (r.map ev),fun w=>by simp only [execOp,Sem.run_bind,Sem.run_pure],sMakeMap_ok (E:=E) (fr:=fr) h⟩
 | makeChan=>cases h
 | makeSlice t l c=>exact .inr ⟨_,fun w=>by simp only [execOp,Sem.run_bind,Sem.run_pure],sMakeSlice_ok hE hs h⟩
 | slice t x lo hi mx=>exact .inr ⟨_,fun w=>by simp only [execOp,Sem.run_bind,Sem.run_pure],sSlice_ok hE (fun y hy=>hs y (by simp [Op.operands] at hy ⊢;simpa [or_assoc] using hy)) h⟩
 | fieldAddr t x f=>exact .inr ⟨_,fun w=>by simp only [execOp,Sem.run_bind,Sem.run_pure],sFieldAddr_ok hE hs h⟩
 | field t x f=>exact .inr ⟨_,fun w=>by simp only [execOp,Sem.run_bind,Sem.run_pure],sField_ok hE hs h⟩
 | indexAddr t x ix=>exact .inr ⟨_,fun w=>by simp only [execOp,Sem.run_bind,Sem.run_pure],sIndexAddr_ok hE hs h⟩
 | index t x ix=>exact .inr ⟨_,fun w=>by simp only [execOp,Sem.run_bind,Sem.run_pure],sIndex_ok hE hs h⟩
 | lookup t x ix ok=>exact .inr ⟨_,fun w=>by simp only [execOp,Sem.run_bind,Sem.run_pure],sLookup_ok hE hs h⟩
 | mapUpdate t m k x=>exact .inl (Option.some.inj h).symm
 | mapEntry=>cases h
 | entryStore=>cases h
 | range t x=>exact .inr ⟨_,fun w=>by simp only [execOp,Sem.run_bind,Sem.run_pure],sRange_ok hE hs h⟩
 | next it b=>exact .inl (Option.some.inj h).symm
 | entry=>cases h
 | typeAssert x t t' ok=>exact .inr ⟨Instr.typeAssert (ev x) t t' ok,fun w=>by simp only [execOp,Sem.run_bind,Sem.run_pure],sTypeAssert_ok hE hs h⟩
 | extract x i=>exact .inr ⟨_,fun w=>by simp only [execOp,Sem.run_bind,Sem.run_pure],sExtract_ok (E:=E) hs h⟩
 | call c =>
  obtain ⟨callee,args,ts⟩:=c
  cases callee with
  | value f=>exact .inl (Option.some.inj h).symm
  | invoke r name=>exact .inl (Option.some.inj h).symm
  | builtin b =>
   have h:obind (evalAll args.toList fr) (builtinS b E ts.toList)=some s:=h
   obtain ⟨vs,hvs,hF⟩:=obind_some h
   obtain ⟨h1,h2,_⟩:=evalAll_ok (ρ:=ρ) (D:=D) (ev:=ev) (fun y hy=>hs y (by simp [Op.operands,Call.operands] at hy ⊢;exact hy)) hvs
   cases b with
   | len=>exact .inr ⟨_,fun w=>by simp only [execOp,resolve,invoke,builtin,Sem.run_bind,Sem.run_pure,Result.andThen_ok],bsLen_ok (ty:=type) hE h1 h2 hF⟩
   | cap=>exact .inr ⟨_,fun w=>by simp only [execOp,resolve,invoke,builtin,Sem.run_bind,Sem.run_pure,Result.andThen_ok],bsCap_ok (ty:=type) hE h1 hF⟩
   | max=>exact .inr ⟨_,fun w=>by simp only [execOp,resolve,invoke,builtin,Sem.run_bind,Sem.run_pure,Result.andThen_ok],bsMax_ok (E:=E) (ty:=type) (ts:=ts) h1 hF⟩
   | min=>exact .inr ⟨_,fun w=>by simp only [execOp,resolve,invoke,builtin,Sem.run_bind,Sem.run_pure,Result.andThen_ok],bsMin_ok (E:=E) (ty:=type) (ts:=ts) h1 hF⟩
   | unsafeSliceData=>exact .inr ⟨_,fun w=>by simp only [execOp,resolve,invoke,builtin,Sem.run_bind,Sem.run_pure,Result.andThen_ok],bsData_ok (E:=E) (ty:=type) (ts:=ts) h1 h2 hF⟩
   | _=>exact .inl (Option.some.inj hF).symm
 | go=>cases h
 | defer c=>exact .inl (Option.some.inj h).symm
 | panic=>cases h
 | send=>cases h
 | recv=>cases h
 | select=>cases h
end
end Go.Ev
