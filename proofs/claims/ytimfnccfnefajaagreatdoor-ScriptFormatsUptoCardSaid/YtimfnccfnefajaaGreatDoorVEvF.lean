/- A part of the proof: EvLoudG, EvLoudH, EvLoudI, EvLoudJ, EvRegA, EvRegB, EvRegC, EvRegD, EvRegE -/
import Derived.Test.YtimfnccfnefajaaGreatDoorVEvE
import Derived.Lib.UnsafeStr
import Derived.Defers
set_option linter.unusedSimpArgs false
set_option linter.unusedVariables false
namespace Go.Ev
section
variable {P:Program} {E:Env} {ρ ρ':Ren} {D D':Dom} {K:Mem} {Pr:Nat→Prop} {s s':St} {w w':World} {fr:Fr} {ev:Operand→Value} {nx:Nx}
theorem isSome_of {α:Type} {x:Option α} (h:bnot (isNoneB x)=true):∃ a,x=some a:=by
 cases x with
 | none=>cases h
 | some a=>exact ⟨a,rfl⟩
theorem appArg_ok (hE:TysOk P E) {ts:Array TypeId} {e:TypeId} {j:TI} {z:Bool} {x:AV} {n:Nat} {new:List AV} (h:MemOk P ρ D K Pr s w) (hj:E.ty.get e=some j) (hdx:x.inD D)
 (hz:zerosOf E (lget ts.toList 1)=some z) (hn:appendCount z x=some n) (hnew:appendNew K s z j n x=some new) (hlen:new.length=n * j.size) (hb:z=true→n * j.bytes≤1099511627776):AppArg P ρ D ts e j z x n new w:=by
 have hJ:=hE.ty _ _ hj
 rw [lget_eq] at hz
 have hts:ts.toList[1]? = ts[1]? := by simp
 rw [hts] at hz
 have hcells:(if z then (n * j.size=0∧new=[])∨(n * j.size≠0∧∃ v:AV,(∀ w:World,(zeroValue e).run P w=.ok (v.toV ρ) w)∧Builtin.zeroCells (v.toV ρ).cells n=⟨toVs ρ new⟩)
  else (Builtin.firstCells j.size n (x.toV ρ)).run P w=.ok ⟨toVs ρ new⟩ w∧(Builtin.firstCells j.size n (x.toV ρ)).run P w.drew=.ok ⟨toVs ρ new⟩ w.drew)∧allIn D new:=by
  unfold appendNew at hnew
  rw [sw_eq] at hnew
  cases z with
  | true =>
   have hnew:zeroRow j n=some new:=by simpa using hnew
   obtain ⟨h1,h2⟩:=zeroRow_ok (ρ:=ρ) (D:=D) hJ hnew
   refine ⟨?_,h1⟩
   simp only [if_true]
   rcases h2 with ⟨h3,h4⟩ | ⟨h3,v,h4,h5⟩
   ·exact .inl ⟨h3,h4⟩
   ·refine .inr ⟨h3,v,h4,?_⟩
    have hsz:(v.toV ρ).cells.size=j.size:=by
     have h6:=congrArg Array.size h5
     simp only [Array.size_map,Array.size_range,List.size_toArray,toVs_length] at h6
     have hzv:∃ zv,j.zero=some zv:=by
      unfold zeroRow at hnew
      rw [sw_eq,nbeq_eq] at hnew
      have h3':¬ Nat.mul n j.size=0:=h3
      simp only [h3',decide_false,Bool.false_eq_true,if_false] at hnew
      obtain ⟨zv,hzv,_⟩:=omap_some hnew
      exact ⟨zv,hzv⟩
     obtain ⟨zv,hzv⟩:=hzv
     have h7:=run_zeroValue (P:=P) hJ hzv ρ w
     rw [h4 w] at h7
     rw [(Result.ok.inj h7).1,cells_len,hJ.width zv hzv]
    unfold Builtin.zeroCells
    rw [hsz]
    rw [hsz] at h5
    exact h5
  | false =>
   have hnew:firstCells K s j.size n x=some new:=by simpa using hnew
   obtain ⟨h1,h2⟩:=firstCells_ok h hdx hnew
   obtain ⟨h3,_⟩:=firstCells_ok (h.same (same_drew w)) hdx hnew
   exact ⟨by simp only [Bool.false_eq_true,if_false];exact ⟨h1,h3⟩,h2⟩
 refine ⟨?_,?_,hcells.1,hcells.2,hlen⟩
 ·cases ht:ts[1]? with
  | none =>
   rw [ht] at hz
   exact .inl ⟨rfl,(Option.some.inj hz).symm⟩
  | some t =>
   rw [ht] at hz
   have hz:obind (ukT E t) (fun u=>grd (bor (bnot (isNoneB u.asInt)) (bor u.isStr (bnot (isNoneB u.asSlice)))) (some (bnot (isNoneB u.asInt))))=some z:=hz
   obtain ⟨u,hu,hz⟩:=obind_some hz
   obtain ⟨hc,hz⟩:=grd_some hz
   obtain ⟨i,hi,hiu⟩:=ukT_some hu
   subst hiu
   have hT:=hE.ty _ _ hi
   refine .inr ⟨t,rfl,?_⟩
   cases hk:i.uk.asInt with
   | some k =>
    rw [hk] at hz
    exact .inl ⟨(Option.some.inj hz).symm,k,uk_int hT hk⟩
   | none =>
    rw [hk] at hz hc
    refine .inr ⟨(Option.some.inj hz).symm,?_⟩
    have hc:bor i.uk.isStr (bnot (isNoneB i.uk.asSlice))=true:=hc
    rw [bor_eq,Bool.or_eq_true] at hc
    rcases hc with h1 | h1
    ·exact .inl (uk_str hT h1)
    ·obtain ⟨e',he'⟩:=isSome_of h1
     exact .inr ⟨e',uk_slice hT he'⟩
 ·unfold appendCount at hn
  rw [sw_eq] at hn
  cases z with
  | true =>
   have hn:obind x.asNat (boundI 1073741824)=some n:=by simpa using hn
   obtain ⟨m,hm,hn⟩:=obind_some hn
   obtain ⟨hc,hn⟩:=grd_some hn
   obtain rfl:=Option.some.inj hn
   obtain ⟨k,hk⟩:=asNat_some hm
   rw [ble_eq] at hc
   simp only [if_true]
   exact ⟨k,hk,of_decide_eq_true hc,hb rfl⟩
  | false =>
   have hn:lenOf x=some n:=by simpa using hn
   simp only [Bool.false_eq_true,if_false]
   exact fun w=>lenOf_ok hn w
theorem takeCells_zero {α:Type} {vs:List α} {off:Nat} (h:off≤vs.length):takeCells vs off 0=some []:=by
 unfold takeCells
 rw [grd_eq,ble_eq,llen_eq]
 have:Nat.add off 0≤vs.length:=h
 simp only [this,decide_true,if_true]
 rfl
theorem bAppend_ok (hE:TysOk P E) {ts:Array TypeId} {ty:TypeId} {args:Array Operand} {vs:List AV} (ha:args.toList.map ev=toVs ρ vs) (hd:allIn D vs) (h:MemOk P ρ D K Pr s w) (hl:bAppend ts.toList vs E K s=some nx) :
 ∃ v s' val w' ρ' D',nx=.val v s'∧(Builtin.append_ ts ty (args.map ev)).run P w=.ok val w'∧Post P ρ D K Pr s w v s' val w' ρ' D':=by
 obtain ⟨e,he,hl⟩:=obind_some hl
 obtain ⟨j,hj,hl⟩:=obind_some hl
 obtain ⟨z,hz,hl⟩:=obind_some hl
 obtain ⟨x,hx,hl⟩:=obind_some hl
 obtain ⟨n,hn,hl⟩:=obind_some hl
 obtain ⟨new,hnew,hl⟩:=obind_some hl
 obtain ⟨hc,hl⟩:=grd_some hl
 obtain ⟨d,hd0,hl⟩:=obind_some hl
 obtain ⟨t,ht,hT⟩:=elemT_ok hE he
 have hJ:=hE.ty _ _ hj
 rw [lget_eq] at hx hd0
 have hg0:=args_get ha hd0
 have hg1:=args_get ha hx
 have hdx:=allIn_get hd hx
 have hdd:=allIn_get hd hd0
 rw [band_eq,band_eq,Bool.and_eq_true,Bool.and_eq_true,nbeq_eq,llen_eq,lall_iff] at hc
 obtain ⟨⟨hone,hlen⟩,hbz⟩:=hc
 have hlen:new.length=n * j.size:=of_decide_eq_true hlen
 have hA:AppArg P ρ D ts e j z x n new w:=appArg_ok hE h hj hdx hz hn hnew hlen (fun hz1=>by
  subst hz1
  have hbz:Nat.ble (Nat.mul n j.bytes) 1099511627776=true:=hbz
  rw [ble_eq] at hbz
  exact of_decide_eq_true hbz)
 cases d with
 | sliceE m o0 o1 opn =>
  obtain ⟨h0,hl⟩:=grd_some (show grd (Nat.beq n 0) (some (.val (.sliceE m o0 o1 opn) s))=some nx from hl)
  obtain rfl:=Option.some.inj hl
  rw [nbeq_eq] at h0
  have h0:n=0:=of_decide_eq_true h0
  subst h0
  have hnil:new=[]:=by
   rw [Nat.zero_mul] at hlen
   exact List.length_eq_zero_iff.1 hlen
  subst hnil
  have hr:=run_append_in (P:=P) (ty:=ty) (w':=w) hJ ht hT hg0 hg1 hA (Nat.zero_le _) (fun a _=>rfl) (fun _=>rfl)
  exact ⟨_,_,_,w,ρ,D,rfl,hr,Post.same h (v:=.sliceE m o0 o1 opn) hdd⟩
 | slice base len cap opn =>
  have hl:appendTo K e j new n s base len cap opn=some nx:=hl
  unfold appendTo at hl
  rw [sw_eq,ble_eq] at hl
  by_cases hin:Nat.add len n≤cap
  ·simp only [hin,decide_true,if_true] at hl
   have hin':len+n≤cap+if opn then roomOf ρ base else 0:=Nat.le_trans hin (Nat.le_add_right _ _)
   cases base with
   | none =>
    obtain rfl:Nx.val (.slice none (Nat.add len n) cap opn) s=nx:=Option.some.inj hl
    have hr:=run_append_in (P:=P) (ty:=ty) (w':=w) hJ ht hT hg0 hg1 hA hin' (fun a h=>by cases h) (fun _=>rfl)
    exact ⟨_,_,_,w,ρ,D,rfl,hr,Post.same h (v:=.slice none (Nat.add len n) cap opn) trivial⟩
   | some a =>
    obtain ⟨s',hs',rfl⟩:=omap_some (show omap (fun s=>Nx.val (.slice (some a) (Nat.add len n) cap opn) s) (storeAt (a.1,Nat.add a.2 (Nat.mul len j.size)) new s)=some nx from hl)
    obtain ⟨w',r1,r2,r3,r4⟩:=storeAt_ok h hA.inD hs'
    have hr:=run_append_in (P:=P) (ty:=ty) (w':=w') hJ ht hT hg0 hg1 hA hin' (fun b hb=>by
     obtain rfl:adr ρ a=b:=Option.some.inj hb
     rw [adr_plus]
     exact r1) (fun hb=>by cases hb)
    exact ⟨_,_,_,w',ρ,D,rfl,hr,Post.store (s:=s) (v:=.slice (some a) (Nat.add len n) cap opn) r2 r3 r4 hdd⟩
  ·simp only [hin,decide_false,Bool.false_eq_true,if_false] at hl
   obtain ⟨hc,hl⟩:=grd_some hl
   obtain ⟨old,hold,hl⟩:=obind_some hl
   rw [band_eq,Bool.and_eq_true,ble_eq] at hc
   obtain ⟨hzs,hsm⟩:=hc
   obtain ⟨zv,hzv⟩:=isSome_of hzs
   have hsm:(len+n) * (j.bytes+1)≤1099511627776:=of_decide_eq_true hsm
   have hin2:¬ len+n≤cap:=hin
   by_cases hroom:len+n≤cap+if opn then roomOf ρ base else 0
   ·have hopn:opn=true∧∃ a,base=some a:=by
     cases opn with
     | false=>exact absurd hroom hin2
     | true =>
      cases base with
      | none=>exact absurd hroom hin2
      | some a=>exact ⟨rfl,a,rfl⟩
    obtain ⟨rfl,a,rfl⟩:=hopn
    have hl:obind (s.H.get a.1) (grownOpen e (lapp old new) (Nat.add len n) (Nat.mul len j.size) cap j.size s a)=some nx:=hl
    obtain ⟨ob,hob,hl⟩:=obind_some hl
    cases ob with
    | cells cs oe frz sh =>
     obtain ⟨hc,hl⟩:=grd_some (show grd (band (Nat.beq oe e) (band (Nat.beq (Nat.mod a.2 j.size) 0) (band (Nat.ble frz (Nat.add a.2 (Nat.mul len j.size))) (Nat.beq (Nat.add a.2 (Nat.mul cap j.size)) (llen cs)))))
      (some (.val (openOn (Nat.add len n) s.k) ⟨(s.H.erase a.1).set s.k (.cells (lapp old new) e (Nat.sub frz a.2) sh),Nat.succ s.k⟩))=some nx from hl)
     obtain rfl:=Option.some.inj hl
     rw [band_eq,band_eq,band_eq,Bool.and_eq_true,Bool.and_eq_true,Bool.and_eq_true,nbeq_eq,nbeq_eq,nbeq_eq,ble_eq,llen_eq] at hc
     obtain ⟨q1,q2,q3,q4⟩:=hc
     have q1:oe=e:=of_decide_eq_true q1
     have q2:a.2 % j.size=0:=of_decide_eq_true q2
     have q3:frz≤a.2+len * j.size:=of_decide_eq_true q3
     have q4:a.2+cap * j.size=cs.length:=of_decide_eq_true q4
     subst q1
     have htake:takeCells cs a.2 (len * j.size)=some old:=by
      have hold:cellsOn K s (Nat.mul len j.size) a=some old:=hold
      unfold cellsOn at hold
      rw [sw_eq,nbeq_eq] at hold
      have hm:Nat.mul len j.size=len * j.size:=rfl
      rw [hm] at hold
      by_cases h0:len * j.size=0
      ·simp only [h0,decide_true,if_true] at hold
       obtain rfl:=Option.some.inj hold
       rw [h0]
       exact takeCells_zero (by omega)
      ·simp only [h0,decide_false,Bool.false_eq_true,if_false] at hold
       obtain ⟨ob,hob2,hc2⟩:=obind_some hold
       unfold look at hob2
       rw [hob] at hob2
       obtain rfl:=Option.some.inj hob2
       exact hc2
     obtain ⟨w',r1,r2⟩:=growTo_in h hJ hob q2 q3 q4 htake hA.inD hone hlen hroom
     have hr:=run_append_in (P:=P) (ty:=ty) (w':=w') hJ ht hT hg0 hg1 hA hroom (fun b hb=>by
      obtain rfl:adr ρ a=b:=Option.some.inj hb
      rw [adr_plus]
      exact r1) (fun hb=>by cases hb)
     exact ⟨_,_,_,w',_,_,rfl,hr,r2⟩
    | _=>cases hl
   ·have hfd:=firstCells_ok (h.same (same_drew w)) hdd hold
    obtain ⟨zs,z1,z2⟩:=run_append_out (P:=P) (ty:=ty) (old:=old) hJ hzv ht hT hg0 hg1 hA (by omega) hsm hfd.1
    have hdall:allIn D (lapp old new):=by
     rw [lapp_eq,allIn_iff]
     intro v hv
     rcases List.mem_append.1 hv with hv | hv
     ·exact (allIn_iff D _).1 hfd.2 v hv
     ·exact (allIn_iff D _).1 hA.inD v hv
    obtain ⟨v,s',ρ',D',hnx,hp⟩:=growTo_new h hJ hdall (grownCap_ge w (len+n) _ e) z1 hl
    rw [lapp_eq] at hp
    exact ⟨v,s',_,_,ρ',D',hnx,z2,hp⟩
 | _=>cases hl
end
end Go.Ev
namespace Go.Ev
section
variable {P:Program} {E:Env} {ρ ρ':Ren} {D D':Dom} {K:Mem} {Pr:Nat→Prop} {s s':St} {w w':World} {fr:Fr} {ev:Operand→Value} {nx:Nx}
theorem uStr_match {motive:Array Value→Type} (p:Option Addr) (v:Value) (h1:∀ p v,motive #[.pointer p,v]) (h2:∀ x,motive x):Go.Builtin.unsafeString_.match_3 motive #[.pointer p,v] h1 h2=h1 p v:=rfl
theorem changed_freeze {b off n:Nat} {c:Array Value} {e:TypeId} {fz:Nat×Nat} (h:w.heap[b]? = some (.cells c e fz)) (hn:n≠0) :
 Changed b w (w.freeze ⟨b,off,none⟩ n)∧(w.freeze ⟨b,off,none⟩ n).heap[b]? = some (.cells c e (if fz.1 == fz.2 then (off,off+n) else (min fz.1 off,max fz.2 (off+n)))):=by
 unfold World.freeze
 rw [if_neg hn]
 refine ⟨⟨by simp,fun q hq=>heap_modify_ne _ hq,rfl,rfl,rfl⟩,?_⟩
 show (w.heap.modify b _)[b]? = _
 rw [heap_modify_same _ h]
theorem liesAt_row (hE:TysOk P E) {e:TypeId} (hc:P.cellsOf e=1) {count off n:Nat} (h:off+n≤count):liesAt P P.depth e count off e n=true:=by
 have hd:P.depth=(2 * (P.types.size+Made.depth)+1)+1:=rfl
 rw [hd]
 simp only [liesAt,Bool.or_eq_true]
 left
 rw [hd]
 simp only [rowAt,hc,Nat.one_ne_zero,if_false,Nat.mod_one,Nat.div_one,sameLayout,beq_self_eq_true,Bool.true_or,Bool.and_true,Bool.true_and,h,decide_true]
theorem run_unsafeString {pt it ty e:TypeId} {a:Addr} {k:IntKind} {l:List UInt8} {cells:Nat} {ts:Array TypeId} (hts:ts[0]? = some pt) (hE:TysOk P E) (hp:P.underlying pt=some (.pointer e)) (hc:P.cellsOf e=1) (hsh:w.shape? a.block=some (e,cells))
 (h0:l≠[]) (hn:a.off+l.length≤cells) (h63:l.length≤9223372036854775807) (hcell:∀ j x,l[j]? = some x→w.cell? (a.add j)=some (.int .u8 x.toNat)) :
 (Builtin.unsafeString_ ts ty #[.pointer (some a),.int k l.length]).run P w=.ok (.string ⟨⟨l⟩⟩) (w.freeze a l.length):=by
 have hl:l.length≠0:=by simpa using h0
 have hlb:=Go.Lib.run_loadBytes (P:=P) w l a .empty hcell
 have hlies:=liesAt_row hE hc (count:=cells / P.cellsOf e) (off:=a.off) (n:=l.length) (by rw [hc];simpa using hn)
 have h63':¬ (9223372036854775807:Int)<(l.length:Int):=by omega
 delta Builtin.unsafeString_
 rw [uStr_match]
 have hmax:IntKind.i64.max=9223372036854775807:=rfl
 have hneg:¬ (l.length:Int)<0:=by omega
 simp [asInt,asIntOf,hts,hmax,h63',hneg,hl,variablesAt,hsh,elemOf,run_underlying hp,hlies,hlb]
theorem bUnsafeString_ok (hE:TysOk P E) {ts:Array TypeId} {ty:TypeId} {args:Array Operand} {vs:List AV} (ha:args.toList.map ev=toVs ρ vs) (h:MemOk P ρ D K Pr s w) (hl:bUnsafeString ts.toList vs E K s=some nx) :
 ∃ v s' val w' ρ' D',nx=.val v s'∧(Builtin.unsafeString_ ts ty (args.map ev)).run P w=.ok val w'∧Post P ρ D K Pr s w v s' val w' ρ' D':=by
 obtain ⟨u,hu,hl⟩:=obind_some hl
 obtain ⟨hc,hl⟩:=grd_some hl
 obtain ⟨n,hn,hl⟩:=obind_some hl
 obtain ⟨h63,hl⟩:=grd_some hl
 obtain ⟨p,hp,hl⟩:=obind_some hl
 obtain ⟨q,hq,hn⟩:=obind_some hn
 obtain ⟨pu,hpu,hu⟩:=obind_some hu
 obtain ⟨pt,hpt,hpu⟩:=obind_some hpu
 obtain ⟨i,hi,hiu⟩:=ukT_some hpu
 subst hiu
 have hT:=uk_ptr (hE.ty _ _ hi) hu
 rw [band_eq,Bool.and_eq_true,nbeq_eq,llen_eq] at hc
 obtain ⟨h2,hby⟩:=hc
 have h2:vs.length=2:=of_decide_eq_true h2
 obtain ⟨_,hcs,_⟩:=byteElem_ok hE hby
 obtain ⟨k,hk⟩:=asNat_some hn
 subst hk
 rw [ble_eq] at h63
 have h63:n≤9223372036854775807:=of_decide_eq_true h63
 rw [lget_eq] at hq hp hpt
 have hpt:ts[0]? = some pt:=by simpa using hpt
 match vs,h2,hq,hp,ha with
 | [x,y],_,hq,hp,ha =>
  obtain rfl:y=.int k n:=Option.some.inj hq
  obtain rfl:x=p:=Option.some.inj hp
  have hm:=args_two ha
  cases x with
  | ptr a =>
   have hl:strAt u s n a=some nx:=hl
   unfold strAt at hl
   rw [sw_eq,nbeq_eq] at hl
   by_cases h0:n=0
   ·simp only [h0,decide_true,if_true] at hl
    obtain rfl:=Option.some.inj hl
    subst h0
    refine ⟨_,_,_,w,ρ,D,rfl,?_,Post.same h (v:=.str []) trivial⟩
    rw [hm]
    have hmax:IntKind.i64.max=9223372036854775807:=rfl
    simp only [AV.toV]
    delta Builtin.unsafeString_
    rw [uStr_match]
    cases a <;> simp [AV.toV,asInt,asIntOf,hpt,hmax] <;> rfl
   ·simp only [h0,decide_false,Bool.false_eq_true,if_false] at hl
    obtain ⟨b,hb,hl⟩:=obind_some hl
    obtain ⟨ob,hob,hl⟩:=obind_some hl
    subst hb
    cases ob with
    | cells cs e frz sh =>
     obtain ⟨hc,hl⟩:=grd_some (show grd (band (bnot sh) (Nat.beq e u)) (obind (obind (takeCells cs b.2 n) bytesOf) fun bs=>some (.val (.str bs) (setObj s b.1 (.cells cs e (max frz (Nat.add b.2 n)) false))))=some nx from hl)
     obtain ⟨bs,hbs,hl⟩:=obind_some hl
     obtain ⟨tk,htk,hbs⟩:=obind_some hbs
     obtain rfl:=Option.some.inj hl
     rw [band_eq,Bool.and_eq_true,nbeq_eq,bnot_eq] at hc
     have hsh:sh=false:=by simpa using hc.1
     have heu:e=u:=of_decide_eq_true hc.2
     subst heu
     obtain ⟨t1,t2⟩:=takeCells_some htk
     have hbm:=bytesOf_some hbs
     have hlen:bs.length=n:=by
      have:=congrArg List.length hbm
      rw [t2] at this
      simp at this
      omega
     subst hlen
     obtain ⟨g1,g2,g3,g4⟩:=h.own _ _ hob
     obtain ⟨c,fz,c1,c2,c3,c4,c5,c6⟩:=g3
     rw [hcs] at c3 c4 c5
     have hshape:w.shape? (adr ρ b).block=some (e,c.size):=by
      show w.shape? (ρ b.1).blk=_
      unfold World.shape?
      rw [c1]
     have hr:=run_unsafeString (P:=P) (ty:=ty) (it:=0) (k:=k) (l:=bs) hpt hE hT hcs hshape (by intro e;rw [e] at h0;exact h0 rfl) (by show (ρ b.1).off+b.2+bs.length≤c.size;omega) h63 (fun j x hx=>by
      rw [adr_add,Nat.add_assoc,cell_of_row w _ _ c e fz c1]
      refine c2 (b.2+j) (byteV x) ?_
      have hx2:tk[j]? = some (byteV x):=by rw [hbm,List.getElem?_map,hx];rfl
      rw [t2,List.getElem?_take] at hx2
      split at hx2
      ·rw [List.getElem?_drop] at hx2;exact hx2
      ·cases hx2)
     obtain ⟨f1,f2⟩:=changed_freeze (off:=(ρ b.1).off+b.2) c1 h0
     obtain ⟨m1,m2⟩:=h.change (ob:=.cells cs e (max frz (Nat.add b.2 bs.length)) false) hob f1 (by
      refine ⟨c,_,f2,c2,by rw [hcs];exact c3,by rw [hcs];exact c4,?_,?_⟩
      ·rw [hcs]
       have hadd:Nat.add b.2 bs.length=b.2+bs.length:=rfl
       rw [hadd]
       intro q h1 h2
       have h5:=c5 q (by omega) h2
       split
       ·simp only;omega
       ·have:=c6 hsh
        simp only
        rename_i hne
        have hne:fz.1≠fz.2:=by simpa using hne
        omega
      ·intro _
       right
       have hadd:Nat.add b.2 bs.length=b.2+bs.length:=rfl
       rw [hadd]
       have:=c6 hsh
       split
       ·simp only;omega
       ·rename_i hne
        have hne:fz.1≠fz.2:=by simpa using hne
        simp only
        omega) g2
     refine ⟨_,_,_,_,ρ,D,rfl,?_,Post.store (s:=s) (v:=.str bs) m1 m2 rfl trivial⟩
     rw [hm]
     exact hr
    | _=>cases hl
  | _=>cases hl
end
end Go.Ev
namespace Go.Ev
section
variable {P:Program} {E:Env} {ρ ρ':Ren} {D D':Dom} {K:Mem} {Pr:Nat→Prop} {s s':St} {w w':World} {fr:Fr} {ev:Operand→Value} {nx:Nx}
def ExtOk (P:Program) (E:Env) (f:FuncId) (x:Ext):Prop :=
 ∀ (ρ:Ren) (D:Dom) (K:Mem) (Pr:Nat→Prop) (s:St) (w:World) (args:List AV) (nx:Nx),MemOk P ρ D K Pr s w→allIn D args→extF x args E K s=some nx →
  ∃ v s',nx=.val v s'∧LoudOk P ρ D K Pr s w ((callFunc f ⟨toVs ρ args⟩).run P w) nx
def DxOk (P:Program) (f:FuncId) (n:Nat):Prop:=(∃ fn,P.funcs[f]? = some fn∧(fn.name == "runtime.NumGoroutine")=false∧fn.body.isNone=false) ∧
 ∀ (args:Array Value) (w:World),args.size=n→CallsD P f args .returning w fun e u w'=>(∃ v,e=.returned v)∧u=.returning∧w'=w
structure EnvOk (P:Program) (E:Env):Prop extends TysOk P E where
 gl:E.gl=P.globals.size
 fn:∀ f fn,E.fn.get f=some fn→P.funcs[f]? = some fn∧(fn.name == "runtime.NumGoroutine")=false
 ext:∀ f x,E.ext.get f=some x→ExtOk P E f x
 dx:∀ f n,E.dx.get f=some n→DxOk P f n
 mixed:P.follows .mixedOrders=true
theorem callFn_ok (hE:EnvOk P E) {f:FuncId} {args:List AV} (h:MemOk P ρ D K Pr s w) (hd:allIn D args) (hl:callFn f args E K s=some nx) (hr:∀ fn,P.funcs[f]? = some fn→(fn.name == "runtime.NumGoroutine")=false→fn.body.isNone=false →
 (callFunc f ⟨toVs ρ args⟩).run P w=.ok (.enter f ⟨toVs ρ args⟩) w):LoudOk P ρ D K Pr s w ((callFunc f ⟨toVs ρ args⟩).run P w) nx:=by
 unfold callFn at hl
 cases hx:E.ext.get f with
 | none =>
  rw [hx] at hl
  obtain rfl:Nx.call f args s=nx:=Option.some.inj hl
  exact ⟨rfl,hd,hr⟩
 | some x =>
  rw [hx] at hl
  have hl:oelim (extF x args E K s) (enterNx f args s) some=some nx:=hl
  cases hq:extF x args E K s with
  | none =>
   rw [hq] at hl
   obtain rfl:Nx.call f args s=nx:=Option.some.inj hl
   exact ⟨rfl,hd,hr⟩
  | some nx' =>
   rw [hq] at hl
   obtain rfl:nx'=nx:=Option.some.inj hl
   obtain ⟨v,s',rfl,h2⟩:=hE.ext f x hx ρ D K Pr s w args nx' h hd hq
   exact h2
theorem run_callFunc {f:FuncId} {fn:Func} {args:Array Value} (hf:P.funcs[f]? = some fn) (hn:(fn.name == "runtime.NumGoroutine")=false) (hb:fn.body.isNone=false) (w:World):(callFunc f args).run P w=.ok (.enter f args) w:=by
 simp only [callFunc,Sem.run_bind,run_program,Result.andThen_ok,hf,hn,hb,Bool.false_eq_true,if_false,Sem.run_pure]
theorem fnId_some {fn:Fn} {f:FuncId} (h:fnId fn=some f):fn=.func f:=by
 cases fn <;> first | exact congrArg Fn.func (Option.some.inj h) | cases h
theorem toVs_append (a b:List AV):toVs ρ (a ++ b)=toVs ρ a ++ toVs ρ b:=by rw [toVs_eq,toVs_eq,toVs_eq,List.map_append]
theorem args_arr {args:Array Operand} {vs:List AV} (h:args.toList.map ev=toVs ρ vs):args.map ev=⟨toVs ρ vs⟩:=by
 apply Array.ext'
 rw [Array.toList_map,h]
theorem allIn_append {a b:List AV} (ha:allIn D a) (hb:allIn D b):allIn D (a ++ b):=by
 rw [allIn_iff] at *
 intro v hv
 exact (List.mem_append.1 hv).elim (ha v) (hb v)
theorem lDefer_ok {c:Call} {o:Oper} (ho:o.op=.defer c) (hs:Sees ρ D fr ev c.operands.toList) (hl:lDefer c E K fr s=some nx):LoudOk P ρ D K Pr s w ((execOp ev o).run P w) nx:=by
 obtain ⟨callee,args,ts⟩:=c
 obtain ⟨f,hf,hl⟩:=obind_some hl
 obtain ⟨vs,hvs,hl⟩:=obind_some hl
 obtain ⟨fv,hfv,hl⟩:=obind_some hl
 cases callee with
 | value g =>
  obtain rfl:g=f:=Option.some.inj hf
  obtain ⟨h1,h2,_⟩:=evalAll_ok (ρ:=ρ) (D:=D) (ev:=ev) (fun y hy=>hs y (by simp [Call.operands] at hy ⊢;exact .inr hy)) hvs
  obtain ⟨h3,h4⟩:=hs g (by simp [Call.operands]) _ hfv
  have hm:=args_arr h1
  cases fv with
  | func fn first captured =>
   obtain ⟨i,hi,hl⟩:=omap_some (show omap (fun f=>Nx.defer f (lapp first (lapp vs captured)) s) (fnId fn)=some nx from hl)
   subst hl
   obtain rfl:=fnId_some hi
   refine ⟨rfl,?_,{ target:=.fn (.func i) ⟨toVs ρ captured⟩,args:=⟨toVs ρ first⟩ ++ ⟨toVs ρ vs⟩ },?_,?_⟩
   ·rw [lapp_eq,lapp_eq]
    exact allIn_append h4.1 (allIn_append h2 h4.2)
   ·simp [execOp,ho,resolve,h3,hm,AV.toV,Deferred.ofValue]
   ·refine ⟨⟨toVs ρ captured⟩,rfl,?_⟩
    apply Array.ext'
    simp [lapp_eq,toVs_append]
  | _=>cases hl
 | _=>cases hf
theorem lCall_value_ok (hE:EnvOk P E) {f:Operand} {args:Array Operand} {ts:Array TypeId} {o:Oper} (ho:o.op=.call ⟨.value f,args,ts⟩) (h:MemOk P ρ D K Pr s w) (hs:Sees ρ D fr ev (Call.operands ⟨.value f,args,ts⟩).toList)
 (hl:lCall ⟨.value f,args,ts⟩ E K fr s=some nx):LoudOk P ρ D K Pr s w ((execOp ev o).run P w) nx:=by
 obtain ⟨vs,hvs,hl⟩:=obind_some (show obind (evalAll args.toList fr) (fun args=>obind (evalX f fr) (callA args E K s))=some nx from hl)
 obtain ⟨fv,hfv,hl⟩:=obind_some hl
 obtain ⟨h1,h2,_⟩:=evalAll_ok (ρ:=ρ) (D:=D) (ev:=ev) (fun y hy=>hs y (by simp [Call.operands] at hy ⊢;exact .inr hy)) hvs
 obtain ⟨h3,h4⟩:=hs f (by simp [Call.operands]) _ hfv
 have hm:=args_arr h1
 cases fv with
 | func fn first captured =>
  obtain ⟨i,hi,hF⟩:=obind_some (show obind (fnId fn) (fun f=>callFn f (lapp first (lapp vs captured)) E K s)=some nx from hl)
  obtain rfl:=fnId_some hi
  have hd:allIn D (lapp first (lapp vs captured)):=by
   rw [lapp_eq,lapp_eq]
   exact allIn_append h4.1 (allIn_append h2 h4.2)
  have he:(⟨toVs ρ first⟩ ++ ⟨toVs ρ vs⟩ ++ ⟨toVs ρ captured⟩:Array Value)=⟨toVs ρ (lapp first (lapp vs captured))⟩:=by
   apply Array.ext'
   simp [lapp_eq,toVs_append]
  have hx:(execOp ev o).run P w=(callFunc i ⟨toVs ρ (lapp first (lapp vs captured))⟩).run P w:=by
   simp only [execOp,ho,resolve,h3,hm,AV.toV,Deferred.ofValue,Sem.run_bind,Sem.run_pure,Result.andThen_ok,invoke]
   rw [he]
  rw [hx]
  exact callFn_ok hE h hd hF fun fn hf hn hb=>run_callFunc hf hn hb w
 | _=>cases hl
end
end Go.Ev
namespace Go.Ev
section
variable {P:Program} {E:Env} {ρ ρ':Ren} {D D':Dom} {K:Mem} {Pr:Nat→Prop} {s s':St} {w w':World} {fr:Fr} {ev:Operand→Value} {nx:Nx}
theorem find_map {α β:Type} (f:α→β) (p:β→Bool) (l:List α):(l.map f).find? p=(l.find? fun a=>p (f a)).map f:=by
 induction l with
 | nil=>rfl
 | cons a l ih =>
  simp only [List.map_cons,List.find?_cons]
  cases p (f a) <;> simp [ih]
theorem run_method {name':String} {t:TypeId} {i:TI} {u:Value} {name:String} {f:FuncId} {pr:Bool} (hT:TyOk P t i) (hf:lfind (fun m=>strEq m.1 name) i.methods=some (name',some (f,pr))) (hc:band (methOk pr i.uk) (bnot (bor i.uk.isIface i.uk.isOther))=true) (n:Nat) (w:World) :
 (method (n+1) t u name).run P w=.ok (f,u) w:=by
 obtain ⟨j,hj,_,_,_,hm⟩:=hT.info
 rw [lfind_eq,hm,lmap_eq,find_map] at hf
 obtain ⟨m,hm1,hm2⟩:=Option.map_eq_some_iff.1 hf
 have hfind:j.methods.find? (·.name == name)=some m:=by
  rw [← Array.find?_toList]
  exact hm1
 have hm2:(m.name,grd (isNilB m.path.toList) m.func)=(name',some (f,pr)):=hm2
 obtain ⟨hp,hfn⟩:=grd_some (Prod.mk.inj hm2).2
 rw [isNilB_eq,List.isEmpty_iff] at hp
 rw [band_eq,Bool.and_eq_true] at hc
 obtain ⟨h1,h2⟩:=hc
 obtain ⟨d,hd,hk⟩:=uk_desc hT (by intro e;rw [e] at h2;cases h2)
 have hpe:m.path.isEmpty=true:=by
  rw [Array.isEmpty_iff]
  exact Array.toList_eq_nil_iff.1 hp
 cases pr with
 | true =>
  have h1:bnot (isNoneB i.uk.asPtr)=true:=h1
  obtain ⟨e,he⟩:=isSome_of h1
  have hd:=uk_ptr hT he
  simp [method,typeInfo,hj,hfind,hp,follow,hfn,receiverAt,run_underlying hd,Place.get]
 | false =>
  have h1:isNoneB i.uk.asPtr=true:=h1
  rw [hk] at h1
  cases d <;> first | (cases h1;done) | simp [method,typeInfo,hj,hfind,hp,follow,hfn,receiverAt,run_underlying hd,Place.get]
theorem lCall_invoke_ok (hE:EnvOk P E) {r:Operand} {name:String} {args:Array Operand} {ts:Array TypeId} {o:Oper} (ho:o.op=.call ⟨.invoke r name,args,ts⟩) (h:MemOk P ρ D K Pr s w) (hs:Sees ρ D fr ev (Call.operands ⟨.invoke r name,args,ts⟩).toList)
 (hl:lCall ⟨.invoke r name,args,ts⟩ E K fr s=some nx):LoudOk P ρ D K Pr s w ((execOp ev o).run P w) nx:=by
 obtain ⟨vs,hvs,hl⟩:=obind_some (show obind (evalAll args.toList fr) (fun args=>obind (evalX r fr) (invokeV name args E K s))=some nx from hl)
 obtain ⟨rv,hrv,hl⟩:=obind_some hl
 obtain ⟨h1,h2,_⟩:=evalAll_ok (ρ:=ρ) (D:=D) (ev:=ev) (fun y hy=>hs y (by simp [Call.operands] at hy ⊢;exact .inr hy)) hvs
 obtain ⟨h3,h4⟩:=hs r (by simp [Call.operands]) _ hrv
 have hm:=args_arr h1
 cases rv with
 | iface t u =>
  obtain ⟨i,hi,hl⟩:=obind_some (show obind (E.ty.get t) (fun i=>obind (lfind (fun m=>strEq m.1 name) i.methods) fun m=>obind m.2 fun q=>grd (band (methOk q.2 i.uk) (bnot (bor i.uk.isIface i.uk.isOther))) (callFn q.1 (u :: vs) E K s))=some nx from hl)
  obtain ⟨m,hmf,hl⟩:=obind_some hl
  obtain ⟨q,hq,hl⟩:=obind_some hl
  obtain ⟨hc,hl⟩:=grd_some hl
  have hmf2:lfind (fun m=>strEq m.1 name) i.methods=some (m.1,some (q.1,q.2)):=by rw [hmf,← hq]
  have hT:=hE.ty _ _ hi
  obtain ⟨n,hn'⟩:∃ n,P.types.size+Made.depth=n+1:=⟨P.types.size+99,rfl⟩
  have hr:=run_method (P:=P) (u:=u.toV ρ) hT hmf2 hc n
  have hx:(#[Value.iface t (u.toV ρ)] ++ (⟨toVs ρ vs⟩:Array Value)).extract 1 (#[Value.iface t (u.toV ρ)] ++ (⟨toVs ρ vs⟩:Array Value)).size=⟨toVs ρ vs⟩:=by
   apply Array.ext'
   simp [List.extract_eq_take_drop]
  have hy:(#[u.toV ρ] ++ (⟨toVs ρ vs⟩:Array Value))=⟨toVs ρ (u :: vs)⟩:=by
   apply Array.ext'
   simp [toVs]
  have hz:(#[Value.iface t (u.toV ρ)] ++ (⟨toVs ρ vs⟩:Array Value))[0]? = some (Value.iface t (u.toV ρ)):=by simp
  have hxx:(execOp ev o).run P w=(callFunc q.1 ⟨toVs ρ (u :: vs)⟩).run P w:=by
   simp only [execOp,ho,resolve,h3,hm,AV.toV,Sem.run_bind,Sem.run_pure,Result.andThen_ok,invoke,hz,hx,callMethod,run_program,hn',hr,hy]
  rw [hxx]
  exact callFn_ok hE h (args:=u :: vs) ⟨h4,h2⟩ hl fun fn hf hn hb=>run_callFunc hf hn hb w
 | _=>cases hl
end
end Go.Ev
namespace Go.Ev
section
variable {P:Program} {E:Env} {ρ ρ':Ren} {D D':Dom} {K:Mem} {Pr:Nat→Prop} {s s':St} {w w':World} {fr fr':Fr} {X:Tmp→Prop} {a:Act}
theorem evTmp_eq (t:Tmp) (fr:Fr):evTmp t fr=some (evT t fr):=by
 unfold evTmp evT
 cases fr.tmps.get t <;> rfl
theorem sees_of (h:FrOk P ρ D X fr a) (hg:∀ g,g<P.globals.size→D g∧ρ g=⟨g,0,0⟩) {xs:List Operand} (hx:∀ t,Operand.tmp t∈xs→¬ X t):Sees ρ D fr a.eval xs:=by
 intro x hxm v hv
 cases x with
 | tmp t =>
  have hv:evTmp t fr=some v:=hv
  rw [evTmp_eq] at hv
  obtain rfl:=Option.some.inj hv
  exact h.tmps t (hx t hxm)
 | const c =>
  obtain ⟨h1,h2⟩:=absV_ok c v hv ρ D
  exact ⟨h1.symm,h2⟩
 | global g =>
  obtain ⟨hc,hv⟩:=grd_some (show grd (nlt g fr.gl) (some (AV.ptr (some (g,0))))=some v from hv)
  obtain rfl:=Option.some.inj hv
  rw [nlt_eq,h.gl] at hc
  obtain ⟨h1,h2⟩:=hg g (of_decide_eq_true hc)
  refine ⟨?_,h1⟩
  simp [Act.eval,AV.toV,adr,h2]
 | func f =>
  obtain rfl:AV.func (.func f) [] []=v:=Option.some.inj hv
  exact ⟨rfl,trivial,trivial⟩
theorem evT_set (d t:Tmp) (v:AV) (fr:Fr):evT t ⟨fr.n,fr.gl,fr.tmps.set d v,fr.defs⟩=if t=d then v else evT t fr:=by
 unfold evT
 rw [Tr.get_set]
 split <;> rfl
theorem DefsOk.ext {ds:List Deferred} {ps:List (FuncId×List AV)} (h:DefsOk ρ ds ps) (ha:Agree D ρ ρ') (hd:∀ p∈ps,allIn D p.2):DefsOk ρ' ds ps:=by
 induction ds generalizing ps with
 | nil=>cases ps <;> exact h
 | cons d ds ih =>
  cases ps with
  | nil=>exact h
  | cons p ps =>
   obtain ⟨⟨cap,h1,h2⟩,h3⟩:=h
   refine ⟨⟨cap,h1,?_⟩,ih h3 fun q hq=>hd q (List.mem_cons_of_mem _ hq)⟩
   rw [h2]
   congr 1
   rw [toVs_eq,toVs_eq]
   exact List.map_congr_left fun v hv=>(toV_ext ha v ((allIn_iff D _).1 (hd p (by simp)) v hv)).symm
theorem FrOk.ext (h:FrOk P ρ D X fr a) (ha:Agree D ρ ρ') (hd:∀ n,D n→D' n):FrOk P ρ' D' X fr a :=
 ⟨h.size,h.gl,fun t ht=>by
  obtain ⟨h1,h2⟩:=h.tmps t ht
  exact ⟨by rw [h1,toV_ext ha _ h2],Go.Ev.inD_mono hd _ h2⟩,h.defs.1.ext ha h.defs.2,fun p hp=>allIn_mono hd _ (h.defs.2 p hp)⟩
theorem FrOk.put (h:FrOk P ρ D X fr a) {d:Option Tmp} {v:AV} (hp:putD d v fr=some fr') (hv:v.inD D):FrOk P ρ D (fun t=>X t∧d≠some t) fr' (a.put d (v.toV ρ)):=by
 cases d with
 | none =>
  obtain rfl:fr=fr':=Option.some.inj hp
  exact ⟨h.size,h.gl,fun t ht=>h.tmps t fun hx=>ht ⟨hx,by simp⟩,h.defs⟩
 | some d =>
  obtain ⟨hc,hp⟩:=grd_some (show grd (nlt d fr.n) (some ⟨fr.n,fr.gl,fr.tmps.set d v,fr.defs⟩)=some fr' from hp)
  obtain rfl:=Option.some.inj hp
  rw [nlt_eq] at hc
  have hc:d<fr.n:=of_decide_eq_true hc
  refine ⟨by simp [Act.put,h.size],h.gl,fun t ht=>?_,h.defs⟩
  rw [evT_set]
  by_cases e:t=d
  ·subst e
   rw [if_pos rfl]
   refine ⟨?_,hv⟩
   have:t<a.tmps.size:=by rw [h.size];exact hc
   simp [Act.put,Array.getD,this]
  ·rw [if_neg e]
   obtain ⟨h1,h2⟩:=h.tmps t fun hx=>ht ⟨hx,by simpa using Ne.symm e⟩
   refine ⟨?_,h2⟩
   rw [← h1]
   simp only [Act.put,Array.getD_eq_getD_getElem?,Array.getElem?_setIfInBounds]
   rw [if_neg (Ne.symm e)]
end
end Go.Ev
namespace Go.Ev
section
variable {P:Program} {E:Env} {ρ ρ':Ren} {D D':Dom} {K:Mem} {Pr:Nat→Prop} {s s':St} {w w':World} {fr fr':Fr} {X:Tmp→Prop} {a:Act} {ev:Operand→Value} {nx:Nx}
theorem loudF_ok (hE:EnvOk P E) {o:Oper} (h:MemOk P ρ D K Pr s w) (hs:Sees ρ D fr ev o.op.operands.toList) (hl:loudF o.op E K fr s=some nx) :
 LoudOk P ρ D K Pr s w ((execOp ev o).run P w) nx:=by
 obtain ⟨dst,op,type,pos,after,guard⟩:=o
 cases op with
 | assign x=>exact lAssign_ok (E:=E) rfl h hs hl
 | insert t m k x=>exact lMapUpdate_ok hE.toTysOk (.inr rfl) h hs hl
 | mapUpdate t m k x=>exact lMapUpdate_ok hE.toTysOk (.inl rfl) h hs hl
 | store t x y=>exact lStore_ok hE.toTysOk rfl h hs hl
 | next it b=>exact lNext_ok (E:=E) rfl h hs hl
 | defer c=>exact lDefer_ok (E:=E) (K:=K) rfl hs hl
 | call c =>
  obtain ⟨callee,args,ts⟩:=c
  cases callee with
  | value f=>exact lCall_value_ok hE rfl h hs hl
  | invoke r name=>exact lCall_invoke_ok hE rfl h hs hl
  | builtin b =>
   obtain ⟨vs,hvs,hl⟩:=obind_some (show obind (evalAll args.toList fr) (fun args=>builtinL b ts.toList args E K s)=some nx from hl)
   obtain ⟨h1,h2,_⟩:=evalAll_ok (ρ:=ρ) (D:=D) (ev:=ev) (fun y hy=>hs y (by simp [Op.operands,Call.operands] at hy ⊢;exact hy)) hvs
   cases b with
   | append =>
    obtain ⟨v,s',val,w',ρ',D',rfl,hrun,hp⟩:=bAppend_ok (ty:=type) hE.toTysOk h1 h2 h hl
    exact .inl ⟨val,w',ρ',D',.inl (by simp only [execOp,resolve,invoke,builtin,Sem.run_bind,Sem.run_pure,Result.andThen_ok,hrun]),hp⟩
   | copy =>
    obtain ⟨v,s',val,w',ρ',D',rfl,hrun,hp⟩:=bCopy_ok (ty:=type) hE.toTysOk h1 h2 h hl
    exact .inl ⟨val,w',ρ',D',.inl (by simp only [execOp,resolve,invoke,builtin,Sem.run_bind,Sem.run_pure,Result.andThen_ok,hrun]),hp⟩
   | unsafeString =>
    obtain ⟨v,s',val,w',ρ',D',rfl,hrun,hp⟩:=bUnsafeString_ok (ty:=type) hE.toTysOk h1 h hl
    exact .inl ⟨val,w',ρ',D',.inl (by simp only [execOp,resolve,invoke,builtin,Sem.run_bind,Sem.run_pure,Result.andThen_ok,hrun]),hp⟩
   | _=>cases hl
 | _=>cases hl
end
end Go.Ev
namespace Go.Ev
section
variable {P:Program} {E:Env} {ρ ρ':Ren} {D D':Dom} {K:Mem} {Pr:Nat→Prop} {s s':St} {w w':World} {fr fr':Fr} {X:Tmp→Prop} {a:Act} {nx:Nx}
theorem toV_bool {v:AV} {b:Bool}:v.toV ρ=.bool b↔v=.bool b:=by
 cases v <;> simp [AV.toV]
theorem asBool_bool {v:AV} {b:Bool}:v.asBool=some b↔v=.bool b:=⟨asBool_some,fun h=>by rw [h];rfl⟩
theorem yieldedBy_iff (h:FrOk P ρ D X fr a) {t:Tmp} (ht:¬ X t) {b:Bool}:yieldedBy fr (some t)=some b↔a.tmps[t]? = some (.bool b):=by
 have h1:=(h.tmps t ht).1
 have h2:yieldedBy fr (some t)=some b↔evT t fr=.bool b:=by
  show obind (fr.tmps.get t) yieldV=some b↔_
  unfold evT
  cases hg:fr.tmps.get t with
  | none =>
   constructor
   ·intro e;cases e
   ·intro e;cases e
  | some v=>exact asBool_bool
 rw [h2,← toV_bool (ρ:=ρ),← h1,Array.getD_eq_getD_getElem?]
 cases hg:a.tmps[t]? with
 | none=>simp [undef]
 | some v=>simp
theorem wanted_eq (h:FrOk P ρ D X fr a) {ops:Array Oper} {o:Oper} (hx:∀ g t,o.guard=some g→((ops[g.1]?).bind (·.dst))=some t→¬ X t):wantedA ops.toList fr o.guard=Region.wanted o (yielded ops a.tmps):=by
 unfold Region.wanted
 cases hg:o.guard with
 | none=>rfl
 | some g =>
  obtain ⟨j,want⟩:=g
  show oelim (yieldedA ops.toList fr j) false (beqB want)=(yielded ops a.tmps j == some want)
  have key:yieldedA ops.toList fr j=yielded ops a.tmps j:=by
   unfold yieldedA yielded
   rw [lget_eq,obind_eq]
   have ho:ops.toList[j]? = ops[j]? := by simp
   rw [ho]
   cases hoj:ops[j]? with
   | none=>rfl
   | some q =>
    show yieldedBy fr q.dst=_
    cases hd:q.dst with
    | none=>simp [hd];rfl
    | some t =>
     have hX:=hx (j,want) t hg (by simp [hoj,hd])
     have hi:=fun b=>yieldedBy_iff h hX (b:=b)
     simp only [Option.bind_some,hd]
     cases hy:yieldedBy fr (some t) with
     | some b=>rw [(hi b).1 hy]
     | none =>
      cases ht:a.tmps[t]? with
      | none=>rfl
      | some v =>
       cases v with
       | bool b=>rw [(hi b).2 ht] at hy;cases hy
       | _=>rfl
  rw [key]
  cases yielded ops a.tmps j with
  | none=>rfl
  | some b =>
   show beqB want b=_
   rw [beqB_eq]
   cases want <;> cases b <;> rfl
end
end Go.Ev
namespace Go.Ev
structure Out (P:Program) (ρ:Ren) (D:Dom) (K:Mem) (Pr:Nat→Prop) (s:St) (w:World) (X:Tmp→Prop) (fr':Fr) (s':St) (a':Act) (w':World) (ρ':Ren) (D':Dom):Prop where
 agree:Agree D ρ ρ'
 grow:∀ n,D n→D' n
 fresh:∀ n,D' n→D n∨s.k≤n
 mem:MemOk P ρ' D' K Pr s' w'
 keeps:Keeps Pr w w'
 le:s.k≤s'.k
 fr:FrOk P ρ' D' X fr' a'
def CallOk (P:Program) (rec:Rec):Prop:=∀ K f args s r,rec (.call K f args s)=some r→∃ v s',r=.call v s'∧(∃ fn,P.funcs[f]? = some fn∧(fn.name == "runtime.NumGoroutine")=false∧fn.body.isNone=false) ∧
 ∀ (ρ:Ren) (D:Dom) (Pr:Nat→Prop) (w:World),MemOk P ρ D K Pr s w→allIn D args→Calls P f ⟨toVs ρ args⟩ w fun e w'=>∃ val ρ' D',e=.returned val∧Post P ρ D K Pr s w v s' val w' ρ' D'
section
variable {P:Program} {E:Env} {ρ ρ':Ren} {D D':Dom} {K:Mem} {Pr:Nat→Prop} {s s':St} {w w':World} {fr fr':Fr} {X:Tmp→Prop} {a:Act} {nx:Nx} {rec:Rec}
theorem Out.of_post {v:AV} {val:Value} {d:Option Tmp} (h:Post P ρ D K Pr s w v s' val w' ρ' D') (hf:FrOk P ρ D X fr a) (hp:putD d v fr=some fr') :
 Out P ρ D K Pr s w (fun t=>X t∧d≠some t) fr' s' (a.put d val) w' ρ' D' :=
 ⟨h.agree,h.grow,h.fresh,h.mem,h.keeps,h.le,by rw [h.val];exact (hf.ext h.agree h.grow).put hp h.inD⟩
theorem okPut_some {d:Option Tmp} {v:AV} {p:FS} (h:okPut d fr s v=some p):putD d v fr=some p.1∧p.2=s:=by
 obtain ⟨f,hf,rfl⟩:=omap_some h
 exact ⟨hf,rfl⟩
theorem sil_post (h:MemOk P ρ D K Pr s w) {S:Sem Value} {x:Sil} (hS:SilV P ρ D S x) (hl:x≠.loud) :
 (∀ v,x=.val v→∃ val w',S.run P w=.ok val w'∧Post P ρ D K Pr s w v s val w' ρ D) ∧
 (∀ n g ob v,x=.read n g→look K s n=some ob→g ob=some v→∃ val w',S.run P w=.ok val w'∧Post P ρ D K Pr s w v s val w' ρ D) ∧
 (∀ ob mk,x=.new ob mk→∃ val w' ρ' D',S.run P w=.ok val w'∧Post P ρ D K Pr s w (mk s.k) (newSt ob s) val w' ρ' D'):=by
 refine ⟨?_,?_,?_⟩
 ·intro v e
  subst e
  exact ⟨_,w,hS.2 w,Post.same h hS.1⟩
 ·intro n g ob v e hob hv
  subst e
  obtain ⟨h1,h2,h3⟩:=h.look hob
  obtain ⟨h4,h5⟩:=hS.2 ob v h2 hv
  exact ⟨_,w,h5 w h3,Post.same h h4⟩
 ·intro ob mk e
  subst e
  obtain ⟨h1,h2,h3⟩:=hS
  obtain ⟨w',l,h4,h5,h6,h7⟩:=h3 w s.k (fun e=>Nat.lt_irrefl _ (h.dom _ e))
  obtain ⟨m1,m2,m3⟩:=h.alloc h5 h6 h7 h1
  exact ⟨_,w',_,_,h4,m2,fun n hn=>.inl hn,fun n hn=>hn.imp id (fun e=>by omega),m1,m3,rfl,h2 _ _ (.inr rfl),Nat.le_succ _⟩
theorem oper_ok (hE:EnvOk P E) (hrec:CallOk P rec) {o:Oper} {p:FS} {Q:Exit→Act→World→Prop} {N:Act→World→Prop} (h:MemOk P ρ D K Pr s w) (hf:FrOk P ρ D X fr a) (hx:∀ t,Operand.tmp t∈o.op.operands.toList→¬ X t)
 (hrun:obind (silF o.op E fr) (afterSil E rec K o fr s)=some p)
 (hN:∀ a' w' ρ' D',Out P ρ D K Pr s w (fun t=>X t∧o.dst≠some t) p.1 p.2 a' w' ρ' D'→N a' w'):o.wp P a w N Q:=by
 obtain ⟨x,hx1,hrun⟩:=obind_some hrun
 have hs:=sees_of hf h.gl hx
 unfold Oper.wp
 have fin:∀ {v:AV} {s':St} {val:Value} {w':World} {ρ':Ren} {D':Dom},(execOp a.eval o).run P w=.ok (.value val) w'→Post P ρ D K Pr s w v s' val w' ρ' D'→okPut o.dst fr s' v=some p →
  o.upon P a N Q ((execOp a.eval o).run P w):=by
  intro v s' val w' ρ' D' hr hp hput
  obtain ⟨h1,h2⟩:=okPut_some hput
  rw [hr,Oper.upon_value]
  rw [← h2] at hp
  exact hN _ _ ρ' D' (Out.of_post hp hf h1)
 by_cases hlo:x=.loud
 ·subst hlo
  obtain ⟨nx,hnx,hrun2⟩:=obind_some (show obind (loudF o.op E K fr s) (afterNx rec K o.dst fr)=some p from hrun)
  clear hrun
  have hL:=loudF_ok hE h hs hnx
  cases nx with
  | val v s' =>
   have hrun:okPut o.dst fr s' v=some p:=hrun2
   rcases hL with ⟨val,w',ρ',D',hr | ⟨hr,hv⟩,hp⟩ | ⟨f,args,hr,hc⟩
   ·exact fin hr hp hrun
   ·obtain ⟨h1,h2⟩:=okPut_some hrun
    rw [hr,Oper.upon_skip]
    rw [← h2] at hp
    rw [hv] at hp
    exact hN _ _ ρ' D' (Out.of_post hp hf h1)
   ·rw [hr,Oper.upon_enter]
    refine Calls.mono hc fun e w' he=>?_
    obtain ⟨val,ρ',D',rfl,hp⟩:=he
    obtain ⟨h1,h2⟩:=okPut_some hrun
    rw [← h2] at hp
    exact hN _ _ ρ' D' (Out.of_post hp hf h1)
  | call f args s' =>
   obtain ⟨rfl,hd,hr⟩:=hL
   obtain ⟨r,hr2,hrun⟩:=obind_some (show obind (rec (.call K f args s')) (afterCall o.dst fr)=some p from hrun2)
   obtain ⟨v,s2,rfl,⟨fn,g1,g2,g3⟩,hc⟩:=hrec K f args s' r hr2
   have hrun:okPut o.dst fr s2 v=some p:=hrun
   rw [hr fn g1 g2 g3,Oper.upon_enter]
   refine Calls.mono (hc ρ D Pr w h hd) fun e w' he=>?_
   obtain ⟨val,ρ',D',rfl,hp⟩:=he
   obtain ⟨h1,h2⟩:=okPut_some hrun
   rw [← h2] at hp
   exact hN _ _ ρ' D' (Out.of_post hp hf h1)
  | defer f args s' =>
   obtain ⟨rfl,hd,d,hr,hdo⟩:=hL
   have hrun:okPut o.dst ⟨fr.n,fr.gl,fr.tmps,(f,args) :: fr.defs⟩ s' undefA=some p:=hrun2
   obtain ⟨h1,h2⟩:=okPut_some hrun
   rw [hr,Oper.upon_defer]
   have hf':FrOk P ρ D X ⟨fr.n,fr.gl,fr.tmps,(f,args) :: fr.defs⟩ { a with defers:=d :: a.defers } :=
    ⟨hf.size,hf.gl,hf.tmps,⟨hdo,hf.defs.1⟩,fun q hq=>by
     rcases List.mem_cons.1 hq with rfl | hq
     ·exact hd
     ·exact hf.defs.2 q hq⟩
   have hp:Post P ρ D K Pr s' w undefA p.2 undef w ρ D:=by rw [h2];exact Post.same h (v:=undefA) trivial
   exact hN _ _ ρ D (Out.of_post hp hf' h1)
 ·obtain ⟨S,hS,hV⟩:=(silF_ok hE.toTysOk hs hx1).resolve_left hlo
  cases x with
  | loud=>exact absurd rfl hlo
  | val v =>
   have hrun:okPut o.dst fr s v=some p:=hrun
   obtain ⟨h1,_,_⟩:=sil_post h hV (by intro e;cases e)
   obtain ⟨val,w',hr,hp⟩:=h1 v rfl
   exact fin (by rw [hS,hr];rfl) hp hrun
  | read n g =>
   obtain ⟨v,hv,hrun⟩:=obind_some (show obind (obind (look K s n) g) (okPut o.dst fr s)=some p from hrun)
   obtain ⟨ob,hob,hv⟩:=obind_some hv
   obtain ⟨_,h1,_⟩:=sil_post h hV (by intro e;cases e)
   obtain ⟨val,w',hr,hp⟩:=h1 n g ob v rfl hob hv
   exact fin (by rw [hS,hr];rfl) hp hrun
  | new ob mk =>
   have hrun:okPut o.dst fr (newSt ob s) (mk s.k)=some p:=hrun
   obtain ⟨_,_,h1⟩:=sil_post h hV (by intro e;cases e)
   obtain ⟨val,w',ρ',D',hr,hp⟩:=h1 ob mk rfl
   exact fin (by rw [hS,hr];rfl) hp hrun
end
end Go.Ev
namespace Go.Ev
section
variable {P:Program} {E:Env} {ρ ρ':Ren} {D D':Dom} {K:Mem} {Pr:Nat→Prop} {s s':St} {w w':World} {fr fr':Fr} {X:Tmp→Prop} {a:Act} {nx:Nx} {rec:Rec}
def noX:Tmp→Prop:=fun _=>False
theorem FrOk.mono {Y:Tmp→Prop} (h:FrOk P ρ D X fr a) (hx:∀ t,X t→Y t):FrOk P ρ D Y fr a:=⟨h.size,h.gl,fun t ht=>h.tmps t fun e=>ht (hx t e),h.defs⟩
theorem Out.refl (h:MemOk P ρ D K Pr s w) (hf:FrOk P ρ D X fr a):Out P ρ D K Pr s w X fr s a w ρ D :=
 ⟨Agree.refl D ρ,fun _ h=>h,fun _ h=>.inl h,h,Keeps.refl _ _,Nat.le_refl _,hf⟩
theorem Out.trans {ρ'':Ren} {D'':Dom} {s'':St} {w'':World} {a' a'':Act} {fr'':Fr} {Y:Tmp→Prop} (h:Out P ρ D K Pr s w X fr' s' a' w' ρ' D') (h':Out P ρ' D' K Pr s' w' Y fr'' s'' a'' w'' ρ'' D''):Out P ρ D K Pr s w Y fr'' s'' a'' w'' ρ'' D'' :=
 ⟨h.agree.trans h'.agree h.grow,fun n hn=>h'.grow n (h.grow n hn),fun n hn=>(h'.fresh n hn).elim (fun hn=>h.fresh n hn) (fun hn=>.inr (Nat.le_trans h.le hn)),h'.mem,h.keeps.trans h'.keeps,Nat.le_trans h.le h'.le,h'.fr⟩
theorem runOps_ok (hE:EnvOk P E) (hrec:CallOk P rec) {ops:Array Oper} {Q:Exit→Act→World→Prop} :
 ∀ (l:List Oper) (i:Nat),ops.toList.drop i=l→∀ (fr:Fr) (s:St) (a:Act) (w:World) (ρ:Ren) (D:Dom) (p:FS),MemOk P ρ D K Pr s w→FrOk P ρ D noX fr a→runOps E rec K ops.toList l fr s=some p →
  (∀ a' w' ρ' D',Out P ρ D K Pr s w noX p.1 p.2 a' w' ρ' D'→Q .normal a' w')→wpOps P ops Q (List.range' i l.length) a w:=by
 intro l
 induction l with
 | nil =>
  intro i _ fr s a w ρ D p h hf hr hQ
  obtain rfl:(fr,s)=p:=Option.some.inj hr
  exact hQ a w ρ D (Out.refl h hf)
 | cons o l ih =>
  intro i hi fr s a w ρ D p h hf hr hQ
  obtain ⟨q,hq,hr⟩:=obind_some (show obind (runOp E rec K ops.toList o fr s) (fun p=>runOps E rec K ops.toList l p.1 p.2)=some p from hr)
  have hoi:ops[i]? = some o:=by
   have h1:ops.toList[i]? = some o:=by
    have:=congrArg (fun l=>l[0]?) hi
    simpa using this
   simpa using h1
  have hil:ops.toList.drop (i+1)=l:=by
   have:=congrArg List.tail hi
   simpa using this
  rw [List.length_cons,List.range'_succ]
  simp only [wpOps,hoi]
  have hw:=wanted_eq hf (ops:=ops) (o:=o) (fun _ _ _ _ hx=>hx)
  unfold runOp at hq
  rw [sw_eq,hw] at hq
  have step:∀ a' w' ρ' D',Out P ρ D K Pr s w noX q.1 q.2 a' w' ρ' D'→wpOps P ops Q (List.range' (i+1) l.length) a' w':=by
   intro a' w' ρ' D' ho
   exact ih (i+1) hil q.1 q.2 a' w' ρ' D' p ho.mem ho.fr hr fun a'' w'' ρ'' D'' ho'=>hQ a'' w'' ρ'' D'' (ho.trans ho')
  cases hwb:Region.wanted o (yielded ops a.tmps) with
  | true =>
   rw [hwb] at hq
   simp only [if_true] at hq ⊢
   exact .inl (oper_ok hE hrec h hf (fun _ _ hx=>hx) hq fun a' w' ρ' D' ho=>step a' w' ρ' D' ⟨ho.agree,ho.grow,ho.fresh,ho.mem,ho.keeps,ho.le,ho.fr.mono fun t ht=>ht.1⟩)
  | false =>
   rw [hwb] at hq
   simp only [Bool.false_eq_true,if_false] at hq ⊢
   obtain ⟨h1,h2⟩:=okPut_some hq
   have hp:Post P ρ D K Pr s w undefA q.2 undef w ρ D:=by rw [h2];exact Post.same h (v:=undefA) trivial
   have ho:=Out.of_post hp hf h1
   exact step _ _ ρ D ⟨ho.agree,ho.grow,ho.fresh,ho.mem,ho.keeps,ho.le,ho.fr.mono fun t ht=>ht.1⟩
end
end Go.Ev
