/- A part of the proof: EvDrawF, EvDrawG, EvDrawH, EvDrawI, EvCode, EvCall -/
import Derived.Test.YtimfnccfnefajaaGreatDoorVEvG
import Derived.Laws.Sem
set_option linter.unusedSimpArgs false
set_option linter.unusedVariables false
namespace Go.Ev
section
variable {P:Program} {E:Env} {ρ₀:Ren} {D₀:Dom} {K:Mem} {Pr:Nat→Prop} {s₀:St} {w₀:World} {ops:Array Oper} {L:Nat} {listed:Array Bool} {r r':RS} {a:Act} {w:World} {ρ:Ren} {D:Dom} {sR:St} {rec:Rec}
theorem Holds.frEq {Y:Tmp→Prop} {fr fr':Fr} {d:Option Tmp} {v:AV} (h:Holds fr d v) (hf:FrEq Y fr fr') (hd:∀ t,d=some t→¬ Y t):Holds fr' d v:=fun t ht=>by
 obtain ⟨h1,h2⟩:=h t ht
 exact ⟨by rw [hf.n];exact h1,by rw [hf.evT (hd t ht)];exact h2⟩
theorem PendOk.move {ops:List Oper} {p:PE} (h:PendOk E K ops r p) {Y:Tmp→Prop} (hf:FrEq Y r.fr r'.fr) (hY:∀ t,Y t→¬ Looks ops p.op t) (hd:∀ t,p.op.dst=some t→¬ Y t)
 (hps:∀ q∈r.ps,q∈r'.ps) (hps2:∀ q∈r'.ps,q.idx=p.idx→q∈r.ps) (hlt:∀ n ob,look K r.s n=some ob→n<r.s.k)
 (hrd:∀ n,(⟨p.idx,some n,none⟩:Pend)∈r.ps→∀ ob,look K r.s n=some ob→look K r'.s n=some ob)
 (hnw:∀ m,(⟨p.idx,none,some m⟩:Pend)∈r.ps→∀ ob,r.s.H.get m=some ob→r'.s.H.get m=some ob)
 (hnew:∀ q∈r'.ps,q ∉ r.ps→∀ m,q.nw=some m→r.s.k≤m):PendOk E K ops r' p:=by
 have hno:(∀ q∈r.ps,q.idx=p.idx→q.nw=none)→∀ q∈r'.ps,q.idx=p.idx→q.nw=none:=fun h q hq e=>h q (hps2 q hq e) e
 rcases h with ⟨h1,h2,h3⟩ | ⟨h1,x,h2,h3⟩
 ·exact .inl ⟨by rw [wanted_frEq hf hY];exact h1,h2.frEq hf hd,hno h3⟩
 ·refine .inr ⟨by rw [wanted_frEq hf hY];exact h1,x,by rw [silF_frEq hf hY];exact h2,?_⟩
  cases x with
  | loud=>exact h3
  | val v=>exact ⟨h3.1.frEq hf hd,hno h3.2⟩
  | read n g =>
   obtain ⟨ob,v,g1,g2,g3,g4,g5⟩:=h3
   refine ⟨ob,v,hrd n g4 ob g1,g2,g3.frEq hf hd,hps _ g4,fun q hq e=>?_⟩
   by_cases hq':q∈r.ps
   ·exact g5 q hq' e
   ·have:=hnew q hq hq' n e
    have:=hlt n ob g1
    omega
  | new ob mk =>
   obtain ⟨m,g1,g2,g3⟩:=h3
   exact ⟨m,hps _ g1,hnw m g1 ob g2,g3.frEq hf hd⟩
theorem a_step (hT:tmpsOk ops.toList (entries ops.toList)=true) (hE:edgesOk (entries ops.toList)=true) (hI:Inv P E ρ₀ D₀ K Pr s₀ w₀ ops.toList L listed r a w) {p:PE} (hp:p∈entries ops.toList) (hs:p.loud=false) (hnL:¬ inL L p.idx) (ha:After (inL L) p)
 (hr:planSoft E K ops.toList p r=some r'):Inv P E ρ₀ D₀ K Pr s₀ w₀ ops.toList (Nat.lor L (bitOf p.idx)) listed r' a w:=by
 obtain ⟨hC,ρ,D,sR,hR⟩:=hI
 have hadd:=fun j=>inL_add L p.idx j
 have hnR:¬ inR listed p.idx:=fun e=>hnL (hC.sub _ e)
 have hnlt:∀ n,PgName r listed n→n<r.s.k:=fun n ⟨q,hq,h1,_⟩=>hC.psk q hq n h1
 have hlook:∀ n ob,look K r.s n=some ob→n<r.s.k:=fun n ob h=>hR.mem.look_lt hR.h2 hR.k hnlt h
 have hslots:∀ q∈entries ops.toList,q.idx≠p.idx→∀ t,p.op.dst=some t→q.op.dst≠some t∧(inMask q.anc p.idx=true∨¬ Looks ops.toList q.op t):=fun q hq hne t ht=>(dst_soft hT hp hs ht).2 q hq hne
 have hown:∀ t,p.op.dst=some t→¬ Looks ops.toList p.op t:=fun t ht=>(dst_soft hT hp hs ht).1
 have key:∃ v,FrEq (fun t=>p.op.dst=some t) r.fr r'.fr∧r'.fr.defs=r.fr.defs∧Holds r'.fr p.op.dst v∧r.s.k≤r'.s.k ∧
  (∀ q∈r.ps,q∈r'.ps)∧(∀ q∈r'.ps,q∈r.ps∨(q.idx=p.idx∧∀ m,q.nw=some m→m=r.s.k∧m<r'.s.k))∧(∀ q∈r'.ps,∀ q'∈r'.ps,q ∉ r.ps→q' ∉ r.ps→q=q') ∧
  (∀ n,n<r.s.k→r'.s.H.get n=r.s.H.get n)∧(∀ n,r'.s.H.get n≠r.s.H.get n→n=r.s.k∧∃ q∈r'.ps,q.nw=some n∧q.idx=p.idx)∧(∀ n,r.s.H.get n≠none→n<r.s.k) ∧
  PendOk E K ops.toList r' p:=by
  have hH:∀ n,r.s.H.get n≠none→n<r.s.k:=by
   intro n hn
   cases ho:r.s.H.get n with
   | none=>exact absurd ho hn
   | some ob=>exact hlook n ob (by unfold look;rw [ho];rfl)
  unfold planSoft at hr
  rw [sw_eq] at hr
  have plain:∀ v,putRS p.op.dst r.fr r.s r.ps v=some r'→∃ hf:putD p.op.dst v r.fr=some r'.fr,r'.s=r.s∧r'.ps=r.ps:=by
   intro v h
   obtain ⟨f,hf,rfl⟩:=omap_some h
   exact ⟨hf,rfl,rfl⟩
  split at hr
  ·rename_i hw
   obtain ⟨x,hx,hr⟩:=obind_some hr
   cases x with
   | loud=>cases hr
   | val v =>
    obtain ⟨hf,e1,e2⟩:=plain v hr
    obtain ⟨f1,f2,f3⟩:=putD_frEq hf
    have f3':Holds r'.fr p.op.dst v:=fun t ht=>⟨by rw [f1.n];exact (f3 t ht).1,(f3 t ht).2⟩
    rw [e1,e2]
    refine ⟨v,f1,f2,f3',Nat.le_refl _,fun _ h=>h,fun _ h=>.inl h,fun q hq _ _ h=>absurd hq h,fun _ _=>rfl,fun n h=>absurd rfl h,hH,.inr ⟨by rw [wanted_frEq f1 hown];exact hw,.val v,by rw [silF_frEq f1 hown];exact hx,f3',fun q hq e=>?_⟩⟩
    rw [e2] at hq
    exact absurd (e ▸ hC.psL q hq) hnL
   | read n g =>
    obtain ⟨hfo,hr⟩:=grd_some (show grd (freshOk p.anc r.ps n) (obind (obind (look K r.s n) g) (putRS p.op.dst r.fr r.s (⟨p.idx,some n,none⟩ :: r.ps)))=some r' from hr)
    obtain ⟨v,hv,hr⟩:=obind_some hr
    obtain ⟨ob,hob,hv⟩:=obind_some hv
    obtain ⟨f,hf,rfl⟩:=omap_some hr
    obtain ⟨f1,f2,f3⟩:=putD_frEq hf
    have f3':Holds f p.op.dst v:=fun t ht=>⟨by rw [f1.n];exact (f3 t ht).1,(f3 t ht).2⟩
    refine ⟨v,f1,f2,f3',Nat.le_refl _,fun q h=>List.mem_cons_of_mem _ h,fun q h=>?_,fun q hq q' hq' hn hn'=>?_,fun _ _=>rfl,fun n h=>absurd rfl h,hH,.inr ⟨by rw [wanted_frEq f1 hown];exact hw,.read n g,by rw [silF_frEq f1 hown];exact hx,ob,v,hob,hv,f3',by simp,fun q hq e=>?_⟩⟩
    ·rcases List.mem_cons.1 h with rfl | h
     ·exact .inr ⟨rfl,fun m hm=>by cases hm⟩
     ·exact .inl h
    ·rw [(List.mem_cons.1 hq).resolve_right hn,(List.mem_cons.1 hq').resolve_right hn']
    ·rcases List.mem_cons.1 hq with rfl | hq
     ·cases e
     ·have h1:=(lall_iff _ _).1 hfo q hq
      rw [bor_eq,Bool.or_eq_true,e] at h1
      rcases h1 with h1 | h1
      ·exact h1
      ·have h1:bnot (Nat.beq n n)=true:=h1
       rw [bnot_eq,nbeq_eq] at h1
       simp at h1
   | new ob mk =>
    obtain ⟨f,hf,rfl⟩:=omap_some (show omap (fun fr=>(⟨fr,newSt ob r.s,⟨p.idx,none,some r.s.k⟩ :: r.ps⟩:RS)) (putD p.op.dst (mk r.s.k) r.fr)=some r' from hr)
    obtain ⟨f1,f2,f3⟩:=putD_frEq hf
    have f3':Holds f p.op.dst (mk r.s.k):=fun t ht=>⟨by rw [f1.n];exact (f3 t ht).1,(f3 t ht).2⟩
    refine ⟨mk r.s.k,f1,f2,f3',Nat.le_succ _,fun q h=>List.mem_cons_of_mem _ h,fun q h=>?_,fun q hq q' hq' hn hn'=>?_,fun n hn=>?_,fun n hn=>?_,hH,.inr ⟨by rw [wanted_frEq f1 hown];exact hw,.new ob mk,by rw [silF_frEq f1 hown];exact hx,r.s.k,by simp,?_,f3'⟩⟩
    ·rcases List.mem_cons.1 h with rfl | h
     ·exact .inr ⟨rfl,fun m hm=>by obtain rfl:=Option.some.inj hm;exact ⟨rfl,Nat.lt_succ_self _⟩⟩
     ·exact .inl h
    ·rw [(List.mem_cons.1 hq).resolve_right hn,(List.mem_cons.1 hq').resolve_right hn']
    ·show (newSt ob r.s).H.get n=_
     rw [get_newSt,if_neg (by omega)]
    ·have hn:(newSt ob r.s).H.get n≠r.s.H.get n:=hn
     rw [get_newSt] at hn
     split at hn
     ·rename_i e
      exact ⟨e,⟨p.idx,none,some r.s.k⟩,List.mem_cons_self,by rw [e],rfl⟩
     ·exact absurd rfl hn
    ·show (newSt ob r.s).H.get r.s.k=_
     rw [get_newSt,if_pos rfl]
  ·rename_i hw
   obtain ⟨hf,e1,e2⟩:=plain undefA hr
   obtain ⟨f1,f2,f3⟩:=putD_frEq hf
   have f3':Holds r'.fr p.op.dst undefA:=fun t ht=>⟨by rw [f1.n];exact (f3 t ht).1,(f3 t ht).2⟩
   rw [e1,e2]
   refine ⟨undefA,f1,f2,f3',Nat.le_refl _,fun _ h=>h,fun _ h=>.inl h,fun q hq _ _ h=>absurd hq h,fun _ _=>rfl,fun n h=>absurd rfl h,hH,.inl ⟨by rw [wanted_frEq f1 hown];simpa using hw,f3',fun q hq e=>?_⟩⟩
   rw [e2] at hq
   exact absurd (e ▸ hC.psL q hq) hnL
 obtain ⟨v,f1,f2,f3,f4,g1,g2,g3,g4,g5,g6,g7⟩:=key
 have hold:∀ q∈r'.ps,q.idx≠p.idx→q∈r.ps:=fun q hq hne=>(g2 q hq).resolve_right fun e=>hne e.1
 have hnewp:∀ q∈r'.ps,q ∉ r.ps→q.idx=p.idx∧∀ m,q.nw=some m→m=r.s.k∧m<r'.s.k:=fun q hq hn=>(g2 q hq).resolve_left hn
 have hnin:∀ q∈r.ps,q.idx≠p.idx:=fun q hq e=>hnL (e ▸ hC.psL q hq)
 have hlk':∀ n ob,look K r.s n=some ob→look K r'.s n=some ob:=by
  intro n ob h
  unfold look at *
  rw [g4 n (hlook n ob h)]
  exact h
 have hpn:∀ n,PgName r listed n→PgName r' listed n:=fun n ⟨q,hq,h1,h2⟩=>⟨q,g1 q hq,h1,h2⟩
 refine ⟨⟨hC.size,fun j hj=>(hadd j).2 (.inl (hC.sub j hj)),fun j hj=>?_,?_,hC.cR,fun q hq hg=>?_,fun q hq hg=>?_,fun q hq=>?_,fun q hq m hm=>?_,fun q hq q' hq' e=>?_,fun q hq q' hq' m h h'=>?_⟩,ρ,D,sR.H |> fun H=>⟨H,r'.s.k⟩,
  ⟨hR.agree,hR.grow,hR.fresh,hR.keeps,Nat.le_trans hR.le f4,hR.mem.congr (fun _=>rfl) (by show sR.k≤r'.s.k;rw [hR.k];exact f4),rfl,fun n hn=>?_,fun n hn=>?_,fun n hn hD=>?_,fun q hq m hm=>?_,?_⟩⟩
 ·rcases (hadd j).1 hj with h | rfl
  ·exact hC.lt j h
  ·have:=(List.getElem?_eq_some_iff.1 (entries_mem.1 hp)).1
   rw [entries_length] at this
   exact this
 ·intro q hq hin j hj
  exact (hadd j).2 ((hC.cL.add hE hp ha) q hq ((hadd _).1 hin) j hj)
 ·by_cases e:q.idx=p.idx
  ·rw [entries_inj hq hp e];exact hs
  ·exact hC.soft q hq ⟨((hadd _).1 hg.1).resolve_right e,hg.2⟩
 ·by_cases e:q.idx=p.idx
  ·rw [entries_inj hq hp e];exact g7
  ·have hgo:Pg L listed q.idx:=⟨((hadd _).1 hg.1).resolve_right e,hg.2⟩
   refine (hC.pend q hq hgo).move f1 (fun t ht hl=>?_) (fun t ht hd=>(hslots q hq e t hd).1 ht) g1 (fun q' hq' e'=>hold q' hq' (by rw [e'];exact e)) hlook (fun n _ ob h=>hlk' n ob h) (fun m h ob ho=>?_) (fun q' hq' hn m hm=>?_)
   ·rcases (hslots q hq e t ht).2 with h | h
    ·exact hnL (hC.cL q hq hgo.1 _ h)
    ·exact h hl
   ·rw [g4 m (hC.psk _ h m rfl)];exact ho
   ·exact Nat.le_of_eq ((hnewp q' hq' hn).2 m hm).1.symm
 ·rcases g2 q hq with h | h
  ·exact (hadd _).2 (.inl (hC.psL q h))
  ·exact (hadd _).2 (.inr h.1)
 ·rcases g2 q hq with h | h
  ·exact Nat.lt_of_lt_of_le (hC.psk q h m hm) f4
  ·exact (h.2 m hm).2
 ·by_cases h:q∈r.ps <;> by_cases h':q'∈r.ps
  ·exact hC.psI q h q' h' e
  ·exact absurd (e.trans (hnewp q' hq' h').1) (hnin q h)
  ·exact absurd (e.symm.trans (hnewp q hq h).1) (hnin q' h')
  ·exact g3 q hq q' hq' h h'
 ·by_cases hq1:q∈r.ps <;> by_cases hq2:q'∈r.ps
  ·exact hC.psN q hq1 q' hq2 m h h'
  ·have:=hC.psk q hq1 m h
   have:=((hnewp q' hq' hq2).2 m h').1
   omega
  ·have:=hC.psk q' hq2 m h'
   have:=((hnewp q hq hq1).2 m h).1
   omega
  ·rw [g3 q hq q' hq' hq1 hq2]
 ·obtain ⟨q,hq,h1,h2⟩:=hn
  show sR.H.get n=none
  by_cases h:q∈r.ps
  ·exact hR.h1 n ⟨q,h,h1,h2⟩
  ·have hk:=((hnewp q hq h).2 n h1).1
   cases ho:sR.H.get n with
   | none=>rfl
   | some ob =>
    have:=hR.mem.dom n (hR.mem.own n ob ho).1
    rw [hR.k] at this
    omega
 ·show sR.H.get n=r'.s.H.get n
  rw [hR.h2 n fun e=>hn (hpn n e)]
  by_cases e:r'.s.H.get n=r.s.H.get n
  ·exact e.symm
  ·obtain ⟨_,q,hq,h1,h2⟩:=g5 n e
   exact absurd ⟨q,hq,h1,by rw [h2];exact hnR⟩ hn
 ·obtain ⟨q,hq,h1,h2⟩:=hn
  by_cases h:q∈r.ps
  ·exact hR.nd n ⟨q,h,h1,h2⟩ hD
  ·have hk:=((hnewp q hq h).2 n h1).1
   have:=hR.mem.dom n hD
   rw [hR.k] at this
   omega
 ·by_cases h:q∈r.ps
  ·exact hR.lo q h m hm
  ·rw [((hnewp q hq h).2 m hm).1]
   exact hR.le
 ·refine (hR.fr.ahead f1 f2).mono ?_
  rintro t (⟨q,hq,hg,hd⟩ | hd)
  ·exact ⟨q,hq,⟨(hadd _).2 (.inl hg.1),hg.2⟩,hd⟩
  ·exact ⟨p,hp,⟨(hadd _).2 (.inr rfl),hnR⟩,hd⟩
end
end Go.Ev
namespace Go.Ev
section
variable {P:Program} {E:Env} {ρ₀:Ren} {D₀:Dom} {K:Mem} {Pr:Nat→Prop} {s₀:St} {w₀:World} {ops:Array Oper} {L:Nat} {listed:Array Bool} {r r':RS} {a:Act} {w:World} {ρ:Ren} {D:Dom} {sR:St} {rec:Rec}
theorem d_step (hN:EnvOk P E) (hrec:CallOk P rec) (hT:tmpsOk ops.toList (entries ops.toList)=true) (hE:edgesOk (entries ops.toList)=true) (hI:Inv P E ρ₀ D₀ K Pr s₀ w₀ ops.toList L listed r a w) {p:PE} (hp:p∈entries ops.toList) (hlo:p.loud=true) (hnL:¬ inL L p.idx) (ha:After (inR listed) p)
 (hr:planLoud E rec K ops.toList p r=some r') {Q:Exit→Act→World→Prop} {N:Act→World→Prop}
 (hK:∀ a' w',Inv P E ρ₀ D₀ K Pr s₀ w₀ ops.toList (Nat.lor L (bitOf p.idx)) (listed.setIfInBounds p.idx true) r' a' w'→N a' w'):wpOp P ops Q p.idx N a w:=by
 obtain ⟨hC,ρ,D,sR,hR⟩:=hI
 have hadd:=fun j=>inL_add L p.idx j
 have hnR:¬ inR listed p.idx:=fun e=>hnL (hC.sub _ e)
 have hpl:p.idx<ops.toList.length:=by
  have:=(List.getElem?_eq_some_iff.1 (entries_mem.1 hp)).1
  rw [entries_length] at this
  exact this
 have hset:=fun j=>inR_set (listed:=listed) (i:=p.idx) (by rw [hC.size];exact hpl) j
 have hcl:=fun t ht=>clear_slots hT hE hC hp ha (t:=t) ht
 have hoi:ops[p.idx]? = some p.op:=by
  have:=(entries_get (entries_mem.1 hp)).2
  simpa using this
 have hnlt:∀ n,PgName r listed n→n<r.s.k:=fun n ⟨q,hq,h1,_⟩=>hC.psk q hq n h1
 have hlook:∀ n ob,look K r.s n=some ob→n<r.s.k:=fun n ob h=>hR.mem.look_lt hR.h2 hR.k hnlt h
 have hanc:∀ q:PE,¬ inR listed q.idx→inMask p.anc q.idx=false:=fun q h=>by
  cases hm:inMask p.anc q.idx with
  | false=>rfl
  | true=>exact absurd (anc_in hE hC.cR hp ha hm) h
 have hanc':∀ q:Pend,¬ inR listed q.idx→inMask p.anc q.idx=false:=fun q h=>by
  cases hm:inMask p.anc q.idx with
  | false=>rfl
  | true=>exact absurd (anc_in hE hC.cR hp ha hm) h
 obtain ⟨l1,l2,l3⟩:=lkOf_spec K p r
 have hout:∀ n,PgName r listed n→OutName p.anc r.ps n:=fun n ⟨q,hq,h1,h2⟩=>⟨q,hq,hanc' q h2,h1⟩
 have hlock:=hR.mem.lock (k:=r.s.k) l1 hR.h2 hout (fun n hn=>l2 n (hout n hn)) hR.k
 obtain ⟨fs,hfs,rfl⟩:=omap_some (show omap (planBack (lkOf K p r).sv r.ps) (runOp E rec (lkOf K p r).K ops.toList p.op r.fr ⟨(lkOf K p r).H,r.s.k⟩)=some r' from hr)
 obtain ⟨f1,_⟩:=runOp_frEq hfs
 obtain ⟨b1,b2⟩:=back_get (H:=fs.2.H) (sv:=(lkOf K p r).sv) fun n o o' g g'=>Option.some.inj ((l1.sv n o g).symm.trans (l1.sv n o' g'))
 have hname:∀ n,PgName (planBack (lkOf K p r).sv r.ps fs) (listed.setIfInBounds p.idx true) n↔PgName r listed n:=by
  intro n
  constructor
  ·rintro ⟨q,hq,h1,h2⟩
   exact ⟨q,hq,h1,fun e=>h2 ((hset _).2 (.inl e))⟩
  ·rintro ⟨q,hq,h1,h2⟩
   refine ⟨q,hq,h1,fun e=>?_⟩
   rcases (hset _).1 e with e | e
   ·exact h2 e
   ·exact hnL (e ▸ hC.psL q hq)
 have hpgo:∀ q∈entries ops.toList,Pg (Nat.lor L (bitOf p.idx)) (listed.setIfInBounds p.idx true) q.idx→Pg L listed q.idx∧q.idx≠p.idx:=by
  intro q _ hg
  have hne:q.idx≠p.idx:=fun e=>hg.2 ((hset _).2 (.inr e))
  exact ⟨⟨((hadd _).1 hg.1).resolve_right hne,fun e=>hg.2 ((hset _).2 (.inl e))⟩,hne⟩
 have fin:∀ a' w' ρ' D',Out P ρ D (lkOf K p r).K (prSv ρ Pr sR.H (lkOf K p r).sv) ⟨(lkOf K p r).H,r.s.k⟩ w (fun t=>PgSlot ops.toList L listed t∧p.op.dst≠some t) fs.1 fs.2 a' w' ρ' D'→N a' w':=by
  intro a' w' ρ' D' ho
  have hle:r.s.k≤fs.2.k:=ho.le
  have hgetnone:∀ n ob,K.get n=some ob→r.s.H.get n=none→(back fs.2.H (lkOf K p r).sv).get n=none:=by
   intro n ob hk hn
   have hns:¬ InSv (lkOf K p r).sv n:=by
    rintro ⟨o,h⟩
    rw [l1.sv n o h] at hn
    cases hn
   rw [b2 n hns]
   cases hg:fs.2.H.get n with
   | none=>rfl
   | some o' =>
    have h1:=(ho.mem.own n o' hg).2.2.2
    have h2:=(ho.mem.rd n ob (by rw [l1.K2 n hns];exact hk)).2.2.2
    exact absurd h2 h1
  classical
  obtain ⟨H',e1,e2⟩:=Tr.exists_without (back fs.2.H (lkOf K p r).sv) ((r.ps.filterMap Pend.nw).filter fun n=>decide (PgName r listed n))
  have hmem:∀ n,n∈((r.ps.filterMap Pend.nw).filter fun n=>decide (PgName r listed n))↔PgName r listed n:=by
   intro n
   rw [List.mem_filter,decide_eq_true_eq]
   refine ⟨fun h=>h.2,fun h=>⟨?_,h⟩⟩
   obtain ⟨q,hq,h1,_⟩:=h
   exact List.mem_filterMap.2 ⟨q,hq,h1⟩
  refine hK a' w' ⟨⟨by simp [hC.size],fun j hj=>?_,fun j hj=>?_,hC.cL.add hE hp (fun j hj=>hC.sub j (ha j hj)) |> fun h=>?_,?_,fun q hq hg=>hC.soft q hq (hpgo q hq hg).1,fun q hq hg=>?_,fun q hq=>(hadd _).2 (.inl (hC.psL q hq)),fun q hq m hm=>Nat.lt_of_lt_of_le (hC.psk q hq m hm) hle,hC.psI,hC.psN⟩,
   ρ',D',⟨H',fs.2.k⟩,⟨hR.agree.trans ho.agree hR.grow,fun n hn=>ho.grow n (hR.grow n hn),fun n hn=>?_,hR.keeps.trans (ho.keeps.mono fun b hb=>.inl hb),Nat.le_trans hR.le hle,?_,rfl,fun n hn=>e1 n ((hmem n).2 ((hname n).1 hn)),fun n hn=>e2 n fun h=>hn ((hname n).2 ((hmem n).1 h)),fun n hn hD=>?_,hR.lo,?_⟩⟩
  ·rcases (hset j).1 hj with h | rfl
   ·exact (hadd j).2 (.inl (hC.sub j h))
   ·exact (hadd _).2 (.inr rfl)
  ·rcases (hadd j).1 hj with h | rfl
   ·exact hC.lt j h
   ·exact hpl
  ·intro q hq hin j hj
   exact (hadd j).2 (h q hq ((hadd _).1 hin) j hj)
  ·intro q hq hin j hj
   exact (hset j).2 ((hC.cR.add hE hp ha) q hq ((hset _).1 hin) j hj)
  ·obtain ⟨hg,hne⟩:=hpgo q hq hg
   have hqs:=hC.soft q hq hg
   refine (hC.pend q hq hg).move f1 (fun t ht hl=>?_) (fun t ht hd=>((dst_soft hT hq hqs ht).2 p hp (Ne.symm hne)).1 hd) (fun _ h=>h) (fun _ h _=>h) hlook (fun n hn ob h=>?_) (fun m hm ob h=>?_) (fun q' h hn=>absurd h hn)
   ·rcases dst_loud hT hp hlo ht hq hqs with h | h | h
    ·exact hnL (hC.cL q hq hg.1 _ h)
    ·exact hg.2 (anc_in hE hC.cR hp ha h)
    ·exact h hl
   ·have hrd:RdName p.anc r.ps n:=⟨_,hn,hanc q hg.2,rfl⟩
    show look K ⟨back fs.2.H (lkOf K p r).sv,fs.2.k⟩ n=some ob
    unfold look at h ⊢
    cases ho':r.s.H.get n with
    | some o =>
     rw [ho'] at h
     have hs:=l1.cov (l3 n hrd (by rw [ho'];simp)) ho'
     show orLook K n ((back fs.2.H (lkOf K p r).sv).get n)=some ob
     rw [b1 n o hs]
     exact h
    | none =>
     rw [ho'] at h
     show orLook K n ((back fs.2.H (lkOf K p r).sv).get n)=some ob
     rw [hgetnone n ob h ho']
     exact h
   ·show (back fs.2.H (lkOf K p r).sv).get m=some ob
    exact b1 m ob (l1.cov (l2 m ⟨_,hm,hanc q hg.2,rfl⟩ (by rw [h];simp)) h)
  ·rcases ho.fresh n hn with h | h
   ·exact hR.fresh n h
   ·exact .inr (Nat.le_trans hR.le h)
  ·exact hR.mem.unlock l1 hR.h2 ho.agree ho.grow ho.mem ho.keeps (pn:=PgName r listed) (Nat.le_refl _) (fun n hn=>e1 n ((hmem n).2 hn)) fun n hn=>e2 n fun h=>hn ((hmem n).1 h)
  ·have hn:=(hname n).1 hn
   rcases ho.fresh n hD with h | h
   ·exact hR.nd n hn h
   ·have:=hnlt n hn
    have h:r.s.k≤n:=h
    omega
  ·refine ho.fr.mono ?_
   rintro t ⟨⟨q,hq,hg,hd⟩,_⟩
   refine ⟨q,hq,⟨(hadd _).2 (.inl hg.1),fun e=>?_⟩,hd⟩
   rcases (hset _).1 e with e | e
   ·exact hg.2 e
   ·exact hnL (e ▸ hg.1)
 unfold wpOp
 simp only [hoi]
 rw [← real_wanted hR.fr hcl]
 unfold runOp at hfs
 rw [sw_eq] at hfs
 split at hfs
 ·rename_i hw
  rw [hw]
  simp only [if_true]
  exact .inl (oper_ok hN hrec hlock hR.fr (fun t ht hX=>hcl t hX (.inl ht)) hfs fin)
 ·rename_i hw
  have hw:wantedA ops.toList r.fr p.op.guard=false:=by simpa using hw
  rw [hw]
  simp only [Bool.false_eq_true,if_false]
  obtain ⟨h1,h2⟩:=okPut_some hfs
  have hpo:Post P ρ D (lkOf K p r).K (prSv ρ Pr sR.H (lkOf K p r).sv) ⟨(lkOf K p r).H,r.s.k⟩ w undefA fs.2 undef w ρ D:=by rw [h2];exact Post.same hlock (v:=undefA) trivial
  exact fin _ _ ρ D (Out.of_post hpo hR.fr h1)
end
end Go.Ev
namespace Go.Ev
section
variable {P:Program} {E:Env} {ρ₀:Ren} {D₀:Dom} {K:Mem} {Pr:Nat→Prop} {s₀:St} {w₀:World} {ops:Array Oper} {L:Nat} {listed:Array Bool} {r r1 r2:RS} {a:Act} {w:World} {rec:Rec} {s s1 s2:St}
theorem putObj_shape {n off:Nat} {new:List AV} {o:AObj} (h:putObj s n off new o=some s1):∃ o',s1=setObj s n o'∧∀ s',putObj s' n off new o=some (setObj s' n o'):=by
 cases o with
 | cells vs e frz sh =>
  obtain ⟨hc,h⟩:=grd_some (show grd (band (Nat.ble frz off) (band (Nat.ble (Nat.add off (llen new)) (llen vs)) (lall AV.one new))) (some (setObj s n (.cells (putCells new off vs) e frz sh)))=some s1 from h)
  refine ⟨_,(Option.some.inj h).symm,fun s'=>?_⟩
  show grd (band (Nat.ble frz off) (band (Nat.ble (Nat.add off (llen new)) (llen vs)) (lall AV.one new))) (some (setObj s' n (.cells (putCells new off vs) e frz sh)))=_
  rw [hc]
  rfl
 | map=>cases h
 | siter=>cases h
theorem storeAt_shape {x:Nat×Nat} {vs:List AV} (h:storeAt x vs s=some s1):(s1=s∧∀ s',storeAt x vs s'=some s')∨∃ o o',s.H.get x.1=some o∧s1=setObj s x.1 o'∧∀ s',s'.H.get x.1=some o→storeAt x vs s'=some (setObj s' x.1 o'):=by
 cases vs with
 | nil=>exact .inl ⟨(Option.some.inj h).symm,fun _=>rfl⟩
 | cons v vs =>
  obtain ⟨o,ho,h⟩:=obind_some (show obind (s.H.get x.1) (putObj s x.1 x.2 (v :: vs))=some s1 from h)
  obtain ⟨o',h1,h2⟩:=putObj_shape h
  refine .inr ⟨o,o',ho,h1,fun s' hs'=>?_⟩
  show obind (s'.H.get x.1) (putObj s' x.1 x.2 (v :: vs))=_
  rw [hs']
  exact h2 s'
theorem storeAt_dom {x:Nat×Nat} {vs:List AV} (h:storeAt x vs s=some s1) {n:Nat} (hn:s.H.get n=none):s1.H.get n=none:=by
 rcases storeAt_shape h with ⟨rfl,_⟩ | ⟨o,o',h1,rfl,_⟩
 ·exact hn
 ·rw [get_setObj,if_neg]
  ·exact hn
  ·rintro rfl
   rw [hn] at h1
   cases h1
theorem storeAt_comm {x y:Nat×Nat} {vs us:List AV} (hne:x.1≠y.1) (h1:storeAt x vs s=some s1) (h2:storeAt y us s1=some s2):∃ s1',storeAt y us s=some s1'∧storeAt x vs s1'=some s2:=by
 rcases storeAt_shape h1 with ⟨rfl,e1⟩ | ⟨o,o',g1,rfl,e1⟩
 ·exact ⟨s2,h2,e1 s2⟩
 ·rcases storeAt_shape h2 with ⟨rfl,e2⟩ | ⟨q,q',f1,rfl,e2⟩
  ·exact ⟨s,e2 s,h1⟩
  ·rw [get_setObj,if_neg (Ne.symm hne)] at f1
   refine ⟨setObj s y.1 q',e2 s f1,?_⟩
   rw [e1 _ (by rw [get_setObj,if_neg hne];exact g1)]
   show some (⟨(s.H.set y.1 q').set x.1 o',s.k⟩:St)=some ⟨(s.H.set x.1 o').set y.1 q',s.k⟩
   have:=Tr.put_comm (some q') (some o') y.1 x.1 (Ne.symm hne) s.H
   unfold Tr.set
   rw [this]
theorem storeX_some {o:Op} {x:Operand} (h:storeX o=some x):∃ t y,o=.store t x y:=by
 cases o with
 | store t a v =>
  obtain rfl:a=x:=Option.some.inj h
  exact ⟨t,v,rfl⟩
 | _=>cases h
theorem store_run {p:PE} {fr:Fr} {n:Nat} {fs:FS} (hb:bareOp p=true) (hs:storeName fr p=some n) (h:runOp E rec K ops.toList p.op fr s=some fs) :
 ∃ x vs s1,x.1=n∧storeAt x vs s=some s1∧fs=(fr,s1)∧∀ s' s1',storeAt x vs s'=some s1'→runOp E rec K ops.toList p.op fr s'=some (fr,s1'):=by
 obtain ⟨idx,op,pre,anc⟩:=p
 obtain ⟨dst,o,type,pos,after,guard⟩:=op
 have hb:band (isNoneB guard) (isNoneB dst)=true:=hb
 rw [band_eq,isNoneB_eq,isNoneB_eq,Bool.and_eq_true,Option.isNone_iff_eq_none,Option.isNone_iff_eq_none] at hb
 obtain ⟨rfl,rfl⟩:=hb
 obtain ⟨x,hx,hs⟩:=obind_some (show obind (storeX o) (fun x=>omap Prod.fst (obind (evalX x fr) AV.asPtr))=some n from hs)
 obtain ⟨t,y,rfl⟩:=storeX_some hx
 obtain ⟨b,hb,hs⟩:=omap_some hs
 have hF:∀ s',runOp E rec K ops.toList ⟨none,.store t x y,type,pos,after,none⟩ fr s'=obind (obind (evalX y fr) fun v=>obind (some b) (storeV E t v.cells s')) (afterNx rec K none fr):=by
  intro s'
  rw [← hb]
  rfl
 have h:runOp E rec K ops.toList ⟨none,.store t x y,type,pos,after,none⟩ fr s=some fs:=h
 rw [hF] at h
 obtain ⟨nx,h1,h2⟩:=obind_some h
 obtain ⟨v,hv,h1⟩:=obind_some h1
 obtain ⟨z,hz,h1⟩:=obind_some (show obind (sizeT E t) (fun z=>grd (Nat.beq (llen v.cells) z) (omap undefNx (storeAt b v.cells s)))=some nx from h1)
 obtain ⟨hc,h1⟩:=grd_some h1
 obtain ⟨s1,hs1,rfl⟩:=omap_some h1
 refine ⟨b,v.cells,s1,hs,hs1,(Option.some.inj (show some (fr,s1)=some fs from h2)).symm,fun s' s1' hs'=>?_⟩
 show runOp E rec K ops.toList ⟨none,.store t x y,type,pos,after,none⟩ fr s'=_
 rw [hF,hv]
 show obind (obind (sizeT E t) fun z=>grd (Nat.beq (llen v.cells) z) (omap undefNx (storeAt b v.cells s'))) (afterNx rec K none fr)=_
 rw [hz]
 show obind (grd (Nat.beq (llen v.cells) z) (omap undefNx (storeAt b v.cells s'))) (afterNx rec K none fr)=_
 rw [hc,hs']
 rfl
theorem takeOut_none {l:Lk} {n:Nat} (h:l.H.get n=none):takeOut l n=l:=by unfold takeOut;rw [h];rfl
theorem lockIn_none {l:Lk} {n:Nat} (h:l.H.get n=none):lockIn l n=l:=by unfold lockIn;rw [h];rfl
theorem lkOf_bare {p:PE} (h1:∀ n,OutName p.anc r.ps n→r.s.H.get n=none) (h2:∀ n,RdName p.anc r.ps n→r.s.H.get n=none):lkOf K p r=⟨K,r.s.H,[]⟩:=by
 have key1:∀ ps:List Pend,(∀ n,OutName p.anc ps n→r.s.H.get n=none)→outs p.anc ps ⟨K,r.s.H,[]⟩=⟨K,r.s.H,[]⟩:=by
  intro ps
  induction ps with
  | nil=>intro _;rfl
  | cons q ps ih =>
   intro h
   have ih:=ih fun n ⟨q',hq,g⟩=>h n ⟨q',List.mem_cons_of_mem _ hq,g⟩
   show sw (inMask p.anc q.idx) (outs p.anc ps ⟨K,r.s.H,[]⟩) (oelim q.nw (outs p.anc ps ⟨K,r.s.H,[]⟩) (takeOut (outs p.anc ps ⟨K,r.s.H,[]⟩)))=_
   rw [ih,sw_eq]
   split
   ·rfl
   ·rename_i hm
    cases hw:q.nw with
    | none=>rfl
    | some m=>exact takeOut_none (h m ⟨q,by simp,by simpa using hm,hw⟩)
 have key2:∀ ps:List Pend,(∀ n,RdName p.anc ps n→r.s.H.get n=none)→locks p.anc ps ⟨K,r.s.H,[]⟩=⟨K,r.s.H,[]⟩:=by
  intro ps
  induction ps with
  | nil=>intro _;rfl
  | cons q ps ih =>
   intro h
   have ih:=ih fun n ⟨q',hq,g⟩=>h n ⟨q',List.mem_cons_of_mem _ hq,g⟩
   show sw (inMask p.anc q.idx) (locks p.anc ps ⟨K,r.s.H,[]⟩) (oelim q.rd (locks p.anc ps ⟨K,r.s.H,[]⟩) (lockIn (locks p.anc ps ⟨K,r.s.H,[]⟩)))=_
   rw [ih,sw_eq]
   split
   ·rfl
   ·rename_i hm
    cases hw:q.rd with
    | none=>rfl
    | some m=>exact lockIn_none (h m ⟨q,by simp,by simpa using hm,hw⟩)
 unfold lkOf
 rw [key1 r.ps h1,key2 r.ps h2]
theorem lkOf_nil {p:PE} (h:(lkOf K p r).sv=[]):(∀ n,OutName p.anc r.ps n→r.s.H.get n=none)∧∀ n,RdName p.anc r.ps n→r.s.H.get n=none:=by
 obtain ⟨_,h2,h3⟩:=lkOf_spec K p r
 have hno:∀ n,¬ InSv (lkOf K p r).sv n:=fun n ⟨o,ho⟩=>by rw [h] at ho;cases ho
 refine ⟨fun n hn=>?_,fun n hn=>?_⟩
 ·cases hg:r.s.H.get n with
  | none=>rfl
  | some o=>exact absurd (h2 n hn (by rw [hg];simp)) (hno n)
 ·cases hg:r.s.H.get n with
  | none=>rfl
  | some o=>exact absurd (h3 n hn (by rw [hg];simp)) (hno n)
theorem planLoud_bare {p:PE} (h1:∀ n,OutName p.anc r.ps n→r.s.H.get n=none) (h2:∀ n,RdName p.anc r.ps n→r.s.H.get n=none):planLoud E rec K ops.toList p r=omap (fun fs=>(⟨fs.1,fs.2,r.ps⟩:RS)) (runOp E rec K ops.toList p.op r.fr r.s):=by
 unfold planLoud
 rw [lkOf_bare h1 h2]
 rfl
theorem duo_comm {p q:PE} (hd:duoOk K r p q=true) (h1:planLoud E rec K ops.toList p r=some r1) (h2:planLoud E rec K ops.toList q r1=some r2):p≠q∧∃ r1',planLoud E rec K ops.toList q r=some r1'∧planLoud E rec K ops.toList p r1'=some r2:=by
 unfold duoOk at hd
 rw [band_eq,band_eq,band_eq,band_eq,Bool.and_eq_true,Bool.and_eq_true,Bool.and_eq_true,Bool.and_eq_true,isNilB_eq,isNilB_eq,List.isEmpty_iff,List.isEmpty_iff] at hd
 obtain ⟨⟨hbp,hbq⟩,⟨hlp,hlq⟩,hst⟩:=hd
 cases hx:storeName r.fr p with
 | none=>rw [hx] at hst;cases hst
 | some x =>
  cases hy:storeName r.fr q with
  | none=>rw [hx,hy] at hst;cases hst
  | some y =>
   rw [hx,hy] at hst
   have hst:bnot (Nat.beq x y)=true:=hst
   rw [bnot_eq,nbeq_eq] at hst
   have hne:x≠y:=by simpa using hst
   refine ⟨fun e=>hne (by rw [e,hy] at hx;exact (Option.some.inj hx).symm),?_⟩
   obtain ⟨p1,p2⟩:=lkOf_nil hlp
   obtain ⟨q1,q2⟩:=lkOf_nil hlq
   rw [planLoud_bare p1 p2] at h1
   obtain ⟨fs,hfs,rfl⟩:=omap_some h1
   obtain ⟨ax,vs,s1,rfl,g1,rfl,g2⟩:=store_run hbp hx hfs
   have dom1:∀ n,r.s.H.get n=none→s1.H.get n=none:=fun n hn=>storeAt_dom g1 hn
   rw [planLoud_bare (r:=⟨r.fr,s1,r.ps⟩) (fun n hn=>dom1 n (q1 n hn)) (fun n hn=>dom1 n (q2 n hn))] at h2
   obtain ⟨fs2,hfs2,rfl⟩:=omap_some h2
   obtain ⟨ay,us,s2,rfl,g3,rfl,g4⟩:=store_run hbq hy hfs2
   obtain ⟨s1',k1,k2⟩:=storeAt_comm hne g1 g3
   have dom2:∀ n,r.s.H.get n=none→s1'.H.get n=none:=fun n hn=>storeAt_dom k1 hn
   refine ⟨⟨r.fr,s1',r.ps⟩,?_,?_⟩
   ·rw [planLoud_bare q1 q2,g4 r.s s1' k1]
    rfl
   ·rw [planLoud_bare (r:=⟨r.fr,s1',r.ps⟩) (fun n hn=>dom2 n (p1 n hn)) (fun n hn=>dom2 n (p2 n hn))]
    show omap _ (runOp E rec K ops.toList p.op r.fr s1')=_
    rw [g2 s1' s2 k2]
    rfl
theorem pickNext_mem {es:List PE} {L:Nat} {p:PE} (h:pickNext es L=some p):p∈es:=by
 unfold pickNext at h
 cases h1:lfind (fun p=>band (bnot p.loud) (p.ready L)) es with
 | some q =>
  rw [h1] at h
  obtain rfl:q=p:=Option.some.inj h
  rw [lfind_eq] at h1
  exact List.mem_of_find?_eq_some h1
 | none =>
  rw [h1] at h
  have h:lfind (PE.ready L) es=some p:=h
  rw [lfind_eq] at h
  exact List.mem_of_find?_eq_some h
theorem planFrom_mem (es:List PE) (n:Nat):∀ L,∀ p∈planFrom es n L,p∈es:=by
 induction n with
 | zero=>intro L p h;cases h
 | succ n ih =>
  intro L p h
  have h:p∈oelim (pickNext es L) [] fun p=>p :: planFrom es n (Nat.lor L (bitOf p.idx)):=h
  cases hp:pickNext es L with
  | none=>rw [hp] at h;cases h
  | some q =>
   rw [hp] at h
   rcases List.mem_cons.1 h with rfl | h
   ·exact pickNext_mem hp
   ·exact ih _ _ h
theorem stepsFrom_mem {es:List PE}:∀ (ps:List PE),(∀ p∈ps,p∈es)→∀ L,∀ x∈stepsFrom ps L,x.e∈es∧∀ q,x.duo=some q→q∈es:=by
 intro ps
 induction ps with
 | nil=>intro _ L x h;cases h
 | cons p ps ih =>
  intro hps L x h
  rcases List.mem_cons.1 (show x∈(⟨p,lcase ps none fun q _=>duoWith L p q⟩:PS) :: stepsFrom ps (Nat.lor L (bitOf p.idx)) from h) with rfl | h
  ·refine ⟨hps p (by simp),fun q hq=>?_⟩
   cases ps with
   | nil=>cases hq
   | cons q' ps =>
    obtain ⟨_,hq⟩:=grd_some (show grd (band p.loud (band q'.loud (q'.ready L))) (some q')=some q from hq)
    obtain rfl:=Option.some.inj hq
    exact hps _ (by simp)
  ·exact ih (fun p hp=>hps p (List.mem_cons_of_mem _ hp)) _ x h
theorem steps_mem (ops:List Oper):∀ x∈steps ops,x.e∈entries ops∧∀ q,x.duo=some q→q∈entries ops :=
 stepsFrom_mem _ (planFrom_mem _ _ _) _
theorem onlyReady_spec {es:List PE} {L i j:Nat} (h:onlyReady es L i j=true) {q:PE} (hq:q∈es) (hr:q.ready L=true):q.idx=i∨q.idx=j:=by
 have h1:=(lall_iff _ _).1 h q hq
 rw [bor_eq,bor_eq,bnot_eq,hr,nbeq_eq,nbeq_eq] at h1
 simpa using h1
theorem lor_swap (a b c:Nat):Nat.lor (Nat.lor a b) c=Nat.lor (Nat.lor a c) b:=by
 show (a ||| b) ||| c=(a ||| c) ||| b
 rw [Nat.or_assoc,Nat.or_comm b c,Nat.or_assoc]
end
end Go.Ev
namespace Go.Ev
section
variable {P:Program} {E:Env} {ρ₀:Ren} {D₀:Dom} {K:Mem} {Pr:Nat→Prop} {s₀:St} {w₀:World} {ops:Array Oper} {rec:Rec} {res:RS} {Q:Exit→Act→World→Prop}
theorem storeName_loud {fr:Fr} {p:PE} {n:Nat} (h:storeName fr p=some n):p.loud=true:=by
 obtain ⟨z,hz,_⟩:=obind_some (show obind (storeX p.op.op) (fun z=>omap Prod.fst (obind (evalX z fr) AV.asPtr))=some n from h)
 obtain ⟨t,v,hop⟩:=storeX_some hz
 unfold PE.loud
 rw [hop]
 rfl
theorem duoOk_loud {r:RS} {p q:PE} (h:duoOk K r p q=true):q.loud=true:=by
 unfold duoOk at h
 rw [band_eq,Bool.and_eq_true] at h
 obtain ⟨_,h⟩:=h
 rw [band_eq,Bool.and_eq_true] at h
 obtain ⟨_,h⟩:=h
 cases hx:storeName r.fr p with
 | none=>rw [hx] at h;cases h
 | some n =>
  cases hy:storeName r.fr q with
  | none=>rw [hx,hy] at h;cases h
  | some m=>exact storeName_loud hy
theorem stepOk_split {es:List PE} {L:Nat} {x:PS} (h:stepOk es L x=true):x.e.ready L=true ∧
 (x.duo=none→x.e.loud=false∨∀ q∈es,q.ready L=true→q.idx=x.e.idx) ∧
 (∀ q,x.duo=some q→x.e.loud=true∧q.ready L=true∧(∀ p∈es,p.ready L=true→p.idx=x.e.idx∨p.idx=q.idx)∧onlyReady es (Nat.lor L (bitOf q.idx)) x.e.idx x.e.idx=true):=by
 unfold stepOk at h
 rw [band_eq,Bool.and_eq_true] at h
 obtain ⟨h1,h2⟩:=h
 refine ⟨h1,fun hd=>?_,fun q hd=>?_⟩
 ·rw [hd] at h2
  have h2:bor (bnot x.e.loud) (onlyReady es L x.e.idx x.e.idx)=true:=h2
  rw [bor_eq,bnot_eq,Bool.or_eq_true,Bool.not_eq_true'] at h2
  refine h2.imp id fun h q hq hr=>?_
  rcases onlyReady_spec h hq hr with h | h <;> exact h
 ·rw [hd] at h2
  have h2:band x.e.loud (band (q.ready L) (band (onlyReady es L x.e.idx q.idx) (band (onlyReady es (Nat.lor L (bitOf q.idx)) x.e.idx x.e.idx) (onlyReady es (Nat.lor L (bitOf x.e.idx)) q.idx q.idx))))=true:=h2
  simp only [band_eq,Bool.and_eq_true] at h2
  exact ⟨h2.1,h2.2.1,fun p hp hr=>onlyReady_spec h2.2.2.1 hp hr,h2.2.2.2.1⟩
theorem step_any (hN:EnvOk P E) (hrec:CallOk P rec) (hT:tmpsOk ops.toList (entries ops.toList)=true) (hE:edgesOk (entries ops.toList)=true) (fuel:Nat)
 (ih:∀ (rest:List PS) (L:Nat) (listed:Array Bool) (r:RS) (a:Act) (w:World),Inv P E ρ₀ D₀ K Pr s₀ w₀ ops.toList L listed r a w→unl listed=fuel→(∀ x∈rest,x.e∈entries ops.toList∧∀ q,x.duo=some q→q∈entries ops.toList)→stepsOk (entries ops.toList) rest L=true →
  runPlan E rec K ops.toList rest r=some res→wpAny P .any ops Q fuel listed a w) :
 ∀ (rest:List PS) (L:Nat) (listed:Array Bool) (r:RS) (a:Act) (w:World) (i:Nat),Inv P E ρ₀ D₀ K Pr s₀ w₀ ops.toList L listed r a w→unl listed=fuel+1→(∀ x∈rest,x.e∈entries ops.toList∧∀ q,x.duo=some q→q∈entries ops.toList)→stepsOk (entries ops.toList) rest L=true →
  runPlan E rec K ops.toList rest r=some res→i∈Region.ready .any ops listed→wpOp P ops Q i (wpAny P .any ops Q fuel (listed.setIfInBounds i true)) a w:=by
 intro rest
 induction rest with
 | nil =>
  intro L listed r a w i hI hu hm hs hr hi
  obtain ⟨hlt,hnR,p,hp,rfl,hoi,ha⟩:=ready_spec (by simpa using hI.1.size) hi
  have hL:inL L p.idx:=(lall_iff _ _).1 (show lall (fun q=>inMask L q.idx) (entries ops.toList)=true from hs) p hp
  refine c_step hN hT hE hI hp ⟨hL,hnR⟩ ha fun a' w' hI'=>ih [] L _ r a' w' hI' ?_ hm hs hr
  have:=unl_set (listed:=listed) (i:=p.idx) (by rw [hI.1.size];simpa using hlt) hnR
  omega
 | cons x rest ihr =>
  intro L listed r a w i hI hu hm hs hr hi
  obtain ⟨hlt,hnR,p,hp,rfl,hoi,ha⟩:=ready_spec (by simpa using hI.1.size) hi
  have hunl:unl (listed.setIfInBounds p.idx true)=fuel:=by
   have:=unl_set (listed:=listed) (i:=p.idx) (by rw [hI.1.size];simpa using hlt) hnR
   omega
  by_cases hL:inL L p.idx
  ·exact c_step hN hT hE hI hp ⟨hL,hnR⟩ ha fun a' w' hI'=>ih (x :: rest) L _ r a' w' hI' hunl hm hs hr
  ·have haL:After (inL L) p:=fun j hj=>hI.1.sub j (ha j hj)
   have hpr:p.ready L=true:=ready_iff.2 ⟨hL,haL⟩
   have hs0:band (stepOk (entries ops.toList) L x) (band (oelim x.duo true fun q=>nextIs q rest) (stepsOk (entries ops.toList) rest (Nat.lor L (bitOf x.e.idx))))=true:=hs
   rw [band_eq,band_eq,Bool.and_eq_true,Bool.and_eq_true] at hs0
   obtain ⟨hs1,hs2,hs3⟩:=hs0
   obtain ⟨k1,k2,k3⟩:=stepOk_split hs1
   obtain ⟨hxe,hxd⟩:=hm x (by simp)
   have hm':∀ y∈rest,y.e∈entries ops.toList∧∀ q,y.duo=some q→q∈entries ops.toList:=fun y hy=>hm y (List.mem_cons_of_mem _ hy)
   obtain ⟨hxL,hxa⟩:=ready_iff.1 k1
   obtain ⟨r1,hr1,hr2⟩:=obind_some (show obind (planStep E rec K ops.toList x r) (runPlan E rec K ops.toList rest)=some res from hr)
   unfold planStep at hr1
   rw [sw_eq] at hr1
   cases hlo:x.e.loud with
   | false =>
    rw [hlo] at hr1
    simp only [Bool.false_eq_true,if_false] at hr1
    exact ihr _ listed r1 a w p.idx (a_step hT hE hI hxe hlo hxL hxa hr1) hu hm' hs3 hr2 hi
   | true =>
    rw [hlo] at hr1
    simp only [if_true] at hr1
    obtain ⟨hduo,hr1⟩:=grd_some hr1
    have own:p.idx=x.e.idx→wpOp P ops Q p.idx (wpAny P .any ops Q fuel (listed.setIfInBounds p.idx true)) a w:=by
     intro e
     have e':=entries_inj hp hxe e
     rw [← e'] at hr1 hlo hs3
     exact d_step hN hrec hT hE hI hp hlo hL ha hr1 fun a' w' hI'=>ih rest _ _ r1 a' w' hI' hunl hm' hs3 hr2
    cases hd:x.duo with
    | none =>
     refine own ?_
     rcases k2 hd with h | h
     ·rw [hlo] at h;cases h
     ·exact h p hp hpr
    | some q =>
     obtain ⟨_,hqr,hon,hon2⟩:=k3 q hd
     have hqe:=hxd q hd
     rcases hon p hp hpr with e | e
     ·exact own e
     ·have e':=entries_inj hp hqe e
      rw [← e'] at hd hqr hon2
      rw [hd] at hduo hs2
      have hduo:duoOk K r x.e p=true:=hduo
      have hs2:nextIs p rest=true:=hs2
      cases rest with
      | nil=>cases hs2
      | cons y rest =>
       have hs2:band (Nat.beq y.e.idx p.idx) (isNoneB y.duo)=true:=hs2
       rw [band_eq,nbeq_eq,isNoneB_eq,Bool.and_eq_true,decide_eq_true_eq,Option.isNone_iff_eq_none] at hs2
       obtain ⟨hy1,hy2⟩:=hs2
       have hye:y.e=p:=entries_inj (hm' y (by simp)).1 hp hy1
       obtain ⟨r2,hr3,hr4⟩:=obind_some (show obind (planStep E rec K ops.toList y r1) (runPlan E rec K ops.toList rest)=some res from hr2)
       have hploud:p.loud=true:=duoOk_loud hduo
       unfold planStep at hr3
       rw [sw_eq,hye,hploud] at hr3
       simp only [if_true] at hr3
       obtain ⟨_,hr3⟩:=grd_some hr3
       obtain ⟨hne,r1',c1,c2⟩:=duo_comm hduo hr1 hr3
       have hs4:band (stepOk (entries ops.toList) (Nat.lor L (bitOf x.e.idx)) y) (band (oelim y.duo true fun q=>nextIs q rest) (stepsOk (entries ops.toList) rest (Nat.lor (Nat.lor L (bitOf x.e.idx)) (bitOf y.e.idx))))=true:=hs3
       rw [band_eq,band_eq,Bool.and_eq_true,Bool.and_eq_true] at hs4
       have hs5:=hs4.2.2
       rw [lor_swap,hye] at hs5
       have hidx:x.e.idx≠p.idx:=fun e=>hne (entries_inj hxe hp e)
       refine d_step hN hrec hT hE hI hp hploud hL ha c1 fun a' w' hI'=>ih (⟨x.e,none⟩ :: rest) _ _ r1' a' w' hI' hunl ?_ ?_ ?_
       ·intro z hz
        rcases List.mem_cons.1 hz with rfl | hz
        ·exact ⟨hxe,fun q hq=>by cases hq⟩
        ·exact hm' z (List.mem_cons_of_mem _ hz)
       ·show band (stepOk (entries ops.toList) (Nat.lor L (bitOf p.idx)) ⟨x.e,none⟩) (band true (stepsOk (entries ops.toList) rest (Nat.lor (Nat.lor L (bitOf p.idx)) (bitOf x.e.idx))))=true
        rw [band_eq,band_eq,hs5]
        have hrd:x.e.ready (Nat.lor L (bitOf p.idx))=true:=by
                  refine ready_iff.2 ⟨fun h=>?_,fun j hj=>(inL_add _ _ _).2 (.inl (hxa j hj))⟩
                  rcases (inL_add _ _ _).1 h with h | h
                  ·exact hxL h
                  ·exact hidx h
        show (band (x.e.ready (Nat.lor L (bitOf p.idx))) (bor (bnot x.e.loud) (onlyReady (entries ops.toList) (Nat.lor L (bitOf p.idx)) x.e.idx x.e.idx)) && (true && true))=true
        rw [hrd,hon2,band_eq,bor_eq]
        simp
       ·show obind (planStep E rec K ops.toList ⟨x.e,none⟩ r1') (runPlan E rec K ops.toList rest)=some res
        unfold planStep
        rw [sw_eq,hlo]
        simp only [if_true]
        show obind (planLoud E rec K ops.toList x.e r1') (runPlan E rec K ops.toList rest)=some res
        rw [c2]
        exact hr4
theorem runPlan_any (hN:EnvOk P E) (hrec:CallOk P rec) (hT:tmpsOk ops.toList (entries ops.toList)=true) (hE:edgesOk (entries ops.toList)=true)
 (hQ:∀ a' w' ρ' D',Out P ρ₀ D₀ K Pr s₀ w₀ noX res.fr res.s a' w' ρ' D'→Q .normal a' w') :
 ∀ (fuel:Nat) (rest:List PS) (L:Nat) (listed:Array Bool) (r:RS) (a:Act) (w:World),Inv P E ρ₀ D₀ K Pr s₀ w₀ ops.toList L listed r a w→unl listed=fuel→(∀ x∈rest,x.e∈entries ops.toList∧∀ q,x.duo=some q→q∈entries ops.toList)→stepsOk (entries ops.toList) rest L=true →
  runPlan E rec K ops.toList rest r=some res→wpAny P .any ops Q fuel listed a w:=by
 have last:∀ (rest:List PS) (L:Nat) (listed:Array Bool) (r:RS) (a:Act) (w:World),Inv P E ρ₀ D₀ K Pr s₀ w₀ ops.toList L listed r a w→(∀ x∈rest,x.e∈entries ops.toList∧∀ q,x.duo=some q→q∈entries ops.toList)→stepsOk (entries ops.toList) rest L=true →
  runPlan E rec K ops.toList rest r=some res→(∀ j,j<ops.size→inR listed j)→Q .normal a w:=by
  intro rest L listed r a w hI hm hs hr hall
  have hallE:∀ p∈entries ops.toList,inR listed p.idx:=by
   intro p hp
   have:=(List.getElem?_eq_some_iff.1 (entries_mem.1 hp)).1
   rw [entries_length] at this
   exact hall _ (by simpa using this)
  cases rest with
  | cons x rest =>
   have hs0:band (stepOk (entries ops.toList) L x) (band (oelim x.duo true fun q=>nextIs q rest) (stepsOk (entries ops.toList) rest (Nat.lor L (bitOf x.e.idx))))=true:=hs
   rw [band_eq,Bool.and_eq_true] at hs0
   obtain ⟨k1,_⟩:=stepOk_split hs0.1
   exact absurd (hI.1.sub _ (hallE _ (hm x (by simp)).1)) (ready_iff.1 k1).1
  | nil =>
   obtain rfl:r=res:=Option.some.inj hr
   obtain ⟨hC,ρ,D,sR,hR⟩:=hI
   have hno:∀ n,¬ PgName r listed n:=by
    rintro n ⟨q,hq,_,h⟩
    exact h (hall _ (by simpa using hC.lt _ (hC.psL q hq)))
   refine hQ a w ρ D ⟨hR.agree,hR.grow,hR.fresh,hR.mem.congr (fun n=>(hR.h2 n (hno n)).symm) (Nat.le_of_eq hR.k),hR.keeps,hR.le,hR.fr.mono ?_⟩
   rintro t ⟨q,hq,hg,_⟩
   exact hg.2 (hallE q hq)
 intro fuel
 induction fuel with
 | zero =>
  intro rest L listed r a w hI hu hm hs hr
  obtain ⟨h1,h2⟩:=unl_zero (ops:=ops) (by simpa using hI.1.size) hu
  exact ⟨h2,last rest L listed r a w hI hm hs hr h1⟩
 | succ fuel ih =>
  intro rest L listed r a w hI hu hm hs hr
  exact ⟨fun hn=>last rest L listed r a w hI hm hs hr (ready_nil hE (by simpa using hI.1.size) hn),fun i hi=>step_any hN hrec hT hE fuel ih rest L listed r a w i hI hu hm hs hr hi⟩
end
section
variable {P:Program} {E:Env} {ρ:Ren} {D:Dom} {K:Mem} {Pr:Nat→Prop} {s:St} {w:World} {ops:Array Oper} {rec:Rec} {fr:Fr} {a:Act} {p:FS} {Q:Exit→Act→World→Prop}
theorem runDraw_ok (hN:EnvOk P E) (hrec:CallOk P rec) (h:MemOk P ρ D K Pr s w) (hf:FrOk P ρ D noX fr a) (hr:runDraw E rec K ops.toList fr s=some p)
 (hQ:∀ a' w' ρ' D',Out P ρ D K Pr s w noX p.1 p.2 a' w' ρ' D'→Q .normal a' w'):wpAny P .any ops Q ops.size (Array.replicate ops.size false) a w:=by
 obtain ⟨hok,hr⟩:=grd_some hr
 obtain ⟨res,hres,rfl⟩:=omap_some hr
 unfold regOk at hok
 rw [band_eq,band_eq,Bool.and_eq_true,Bool.and_eq_true] at hok
 have hnoR:∀ j,¬ inR (Array.replicate ops.size false) j:=by
  intro j hj
  unfold inR at hj
  by_cases hl:j<ops.size <;> simp [hl] at hj
 have hno:∀ j,¬ inL 0 j:=by
  intro j hj
  unfold inL at hj
  rw [inMask_zero] at hj
  cases hj
 refine runPlan_any hN hrec hok.2.2 hok.1 hQ ops.size (steps ops.toList) 0 _ ⟨fr,s,[]⟩ a w ⟨⟨by simp,fun j hj=>absurd hj (hnoR j),fun j hj=>absurd hj (hno j),fun p _ hp=>absurd hp (hno _),fun p _ hp=>absurd hp (hnoR _),fun p _ hg=>absurd hg.1 (hno _),fun p _ hg=>absurd hg.1 (hno _),fun q hq=>(by cases hq),fun q hq=>(by cases hq),fun q hq=>(by cases hq),fun q hq=>(by cases hq)⟩,
  ρ,D,s,⟨Agree.refl D ρ,fun _ h=>h,fun _ h=>.inl h,Keeps.refl _ _,Nat.le_refl _,h,rfl,fun n hn=>?_,fun _ _=>rfl,fun n hn=>?_,fun q hq=>(by cases hq),hf.mono fun t ht=>ht.elim⟩⟩ ?_ (steps_mem _) hok.2.1 hres
 ·obtain ⟨q,hq,_⟩:=hn
  cases hq
 ·obtain ⟨q,hq,_⟩:=hn
  cases hq
 ·unfold unl
  simp
end
end Go.Ev
namespace Go.Ev
def exitOf:Ex→Exit
 | .normal=>.normal
 | .exit i=>.exit i
 | .ret=>.ret
def After' (P:Program) (ρ:Ren) (D:Dom) (K:Mem) (Pr:Nat→Prop) (s:St) (w:World) (e:Ex) (fr':Fr) (s':St):Exit→Act→World→Prop :=
 fun x a' w'=>x=exitOf e∧∃ ρ' D',Out P ρ D K Pr s w noX fr' s' a' w' ρ' D'
def LoopWp (P:Program) (c:Code) (Q:Exit→Act→World→Prop) (a:Act) (w:World):Prop :=
 ∀ (b:Frame) (k:List Item) (cs:List Frame),∃ e a' w',Q e a' w'∧Arrives P (lone (b.at a (.code c :: .inLoop c :: k)) cs w) b k cs e a' w'
def CodeOk (P:Program) (rec:Rec):Prop:=∀ K c fr s r,rec (.code K c fr s)=some r→∃ e fr' s',r=.code e fr' s' ∧
 ∀ (ρ:Ren) (D:Dom) (Pr:Nat→Prop) (a:Act) (w:World),MemOk P ρ D K Pr s w→FrOk P ρ D noX fr a →
  c.wp P (After' P ρ D K Pr s w e fr' s') a w∧∀ body,c=.loop body→LoopWp P body (After' P ρ D K Pr s w e fr' s') a w
section
variable {P:Program} {E:Env} {ρ ρ':Ren} {D D':Dom} {K:Mem} {Pr:Nat→Prop} {s s':St} {w w':World} {fr fr':Fr} {a a':Act} {rec:Rec} {Q Q':Exit→Act→World→Prop} {c:Code}
theorem MemOk.drawn (h:MemOk P ρ D K Pr s w) (n:Nat):MemOk P ρ D K Pr s { w with drawn:=n }:=⟨h.dom,h.own,h.inj,h.rd,h.prlt,h.gl⟩
theorem Out.drawn {n:Nat} {X:Tmp→Prop} (h:Out P ρ D K Pr s { w with drawn:=n } X fr' s' a' w' ρ' D'):Out P ρ D K Pr s w X fr' s' a' w' ρ' D' :=
 ⟨h.agree,h.grow,h.fresh,h.mem,⟨h.keeps.size,h.keeps.same,h.keeps.os,h.keeps.output,h.keeps.tape⟩,h.le,h.fr⟩
theorem LoopWp.mono (h:LoopWp P c Q a w) (hq:∀ e a w,Q e a w→Q' e a w):LoopWp P c Q' a w :=
 fun b k cs=>let ⟨e,a',w',q,r⟩:=h b k cs;⟨e,a',w',hq _ _ _ q,r⟩
theorem LoopWp.wp (h:LoopWp P c Q a w):(Code.loop c).wp P Q a w :=
 fun b k cs=>let ⟨e,a',w',q,r⟩:=h b k cs;⟨e,a',w',q,.of_steps (.one step_loop) r⟩
theorem LoopWp.round (h:c.wp P (Exit.then (LoopWp P c Q) Q) a w):LoopWp P c Q a w:=by
 intro b k cs
 obtain ⟨e,a₁,w₁,hq,harr⟩:=h b (.inLoop c :: k) cs
 cases e with
 | normal =>
  obtain ⟨e₂,a₂,w₂,hq₂,harr₂⟩:=hq b k cs
  exact ⟨e₂,a₂,w₂,hq₂,.of_steps (Steps.trans harr (.one step_inLoop)) harr₂⟩
 | exit id=>exact ⟨_,a₁,w₁,hq,.pass (x:=.inLoop c) rfl (fun _ _=>.inl (by simp)) harr⟩
 | goto l=>exact ⟨_,a₁,w₁,hq,.pass (x:=.inLoop c) rfl (fun _ _=>.inl (by simp)) harr⟩
 | ret=>exact ⟨_,a₁,w₁,hq,.pass (x:=.inLoop c) rfl (fun _ _=>.inl (by simp)) harr⟩
 | panic ch=>exact ⟨_,a₁,w₁,hq,.pass (x:=.inLoop c) rfl (fun _ _=>.inl (by simp)) harr⟩
 | outgrown=>exact ⟨_,a₁,w₁,hq,.pass (x:=.inLoop c) rfl (fun _ _=>.inl (by simp)) harr⟩
theorem After'.trans {e:Ex} {s1:St} {fr1 fr2:Fr} {s2:St} (h:Out P ρ D K Pr s w noX fr1 s1 a' w' ρ' D') {x:Exit} {a2:Act} {w2:World} (h2:After' P ρ' D' K Pr s1 w' e fr2 s2 x a2 w2):After' P ρ D K Pr s w e fr2 s2 x a2 w2:=by
 obtain ⟨h3,ρ'',D'',h4⟩:=h2
 exact ⟨h3,ρ'',D'',h.trans h4⟩
theorem not_loop {c:Code} (h:∀ b,c≠.loop b) {R:Prop} (body:Code) (e:c=.loop body):R:=absurd e (h body)
theorem code_ok (hN:EnvOk P E) (hrec:CallOk P rec) (hcode:CodeOk P rec) {r:Res} (h:codeF c E rec K fr s=some r):∃ e fr' s',r=.code e fr' s' ∧
 ∀ (ρ:Ren) (D:Dom) (Pr:Nat→Prop) (a:Act) (w:World),MemOk P ρ D K Pr s w→FrOk P ρ D noX fr a →
  c.wp P (After' P ρ D K Pr s w e fr' s') a w∧∀ body,c=.loop body→LoopWp P body (After' P ρ D K Pr s w e fr' s') a w:=by
 cases c with
 | skip =>
  obtain rfl:=Option.some.inj (show some (Res.code .normal fr s)=some r from h)
  exact ⟨_,_,_,rfl,fun ρ D Pr a w hm hf=>⟨wp_skip ⟨rfl,ρ,D,Out.refl hm hf⟩,fun _=>not_loop (by simp) _⟩⟩
 | label l =>
  obtain rfl:=Option.some.inj (show some (Res.code .normal fr s)=some r from h)
  exact ⟨_,_,_,rfl,fun ρ D Pr a w hm hf=>⟨wp_label ⟨rfl,ρ,D,Out.refl hm hf⟩,fun _=>not_loop (by simp) _⟩⟩
 | exit id =>
  obtain rfl:=Option.some.inj (show some (Res.code (.exit id) fr s)=some r from h)
  exact ⟨_,_,_,rfl,fun ρ D Pr a w hm hf=>⟨wp_exit ⟨rfl,ρ,D,Out.refl hm hf⟩,fun _=>not_loop (by simp) _⟩⟩
 | ret =>
  obtain rfl:=Option.some.inj (show some (Res.code .ret fr s)=some r from h)
  exact ⟨_,_,_,rfl,fun ρ D Pr a w hm hf=>⟨wp_ret ⟨rfl,ρ,D,Out.refl hm hf⟩,fun _=>not_loop (by simp) _⟩⟩
 | region id ops draw =>
  obtain ⟨p,hp,rfl⟩:=omap_some (show omap resN (sw draw (runDraw E rec K ops.toList fr s) (runOps E rec K ops.toList ops.toList fr s))=some r from h)
  refine ⟨.normal,p.1,p.2,rfl,fun ρ D Pr a w hm hf=>⟨?_,fun _=>not_loop (by simp) _⟩⟩
  rw [sw_eq] at hp
  cases draw with
  | true =>
   simp only [if_true] at hp
   exact wp_region_any hN.mixed (runDraw_ok hN hrec (hm.drawn _) hf hp fun a' w' ρ' D' ho=>⟨rfl,ρ',D',ho.drawn⟩)
  | false =>
   simp only [Bool.false_eq_true,if_false] at hp
   have:=runOps_ok hN hrec (ops:=ops) (Q:=After' P ρ D K Pr s w .normal p.1 p.2) ops.toList 0 rfl fr s a w ρ D p hm hf hp fun a' w' ρ' D' ho=>⟨rfl,ρ',D',ho⟩
   refine wp_region ?_
   rw [List.range_eq_range']
   simpa using this
 | seq x y =>
  obtain ⟨r1,h1,h⟩:=obind_some (show obind (rec (.code K x fr s)) (thenSeq rec K y)=some r from h)
  obtain ⟨e1,fr1,s1,rfl,k1⟩:=hcode K x fr s r1 h1
  have pass:∀ e1,(∀ ρ D Pr a w,MemOk P ρ D K Pr s w→FrOk P ρ D noX fr a→x.wp P (After' P ρ D K Pr s w e1 fr1 s1) a w)→e1≠.normal →
   ∀ (ρ:Ren) (D:Dom) (Pr:Nat→Prop) (a:Act) (w:World),MemOk P ρ D K Pr s w→FrOk P ρ D noX fr a→(Code.seq x y).wp P (After' P ρ D K Pr s w e1 fr1 s1) a w:=by
   intro e1 hx hne ρ D Pr a w hm hf
   refine wp_seq (wp_mono (hx ρ D Pr a w hm hf) fun e' a' w' hq=>?_)
   obtain ⟨rfl,hq⟩:=hq
   cases e1 with
   | normal=>exact absurd rfl hne
   | exit i=>exact ⟨rfl,hq⟩
   | ret=>exact ⟨rfl,hq⟩
  cases e1 with
  | normal =>
   obtain ⟨e2,fr2,s2,rfl,k2⟩:=hcode K y fr1 s1 r (show rec (.code K y fr1 s1)=some r from h)
   refine ⟨e2,fr2,s2,rfl,fun ρ D Pr a w hm hf=>⟨?_,fun _=>not_loop (by simp) _⟩⟩
   refine wp_seq (wp_mono (k1 ρ D Pr a w hm hf).1 fun e' a' w' hq=>?_)
   obtain ⟨rfl,ρ',D',ho⟩:=hq
   exact wp_mono (k2 ρ' D' Pr a' w' ho.mem ho.fr).1 fun e a w hq=>After'.trans ho hq
  | exit i =>
   obtain rfl:=Option.some.inj (show some (Res.code (.exit i) fr1 s1)=some r from h)
   exact ⟨_,_,_,rfl,fun ρ D Pr a w hm hf=>⟨pass (.exit i) (fun ρ D Pr a w hm hf=>(k1 ρ D Pr a w hm hf).1) (by simp) ρ D Pr a w hm hf,fun _=>not_loop (by simp) _⟩⟩
  | ret =>
   obtain rfl:=Option.some.inj (show some (Res.code .ret fr1 s1)=some r from h)
   exact ⟨_,_,_,rfl,fun ρ D Pr a w hm hf=>⟨pass .ret (fun ρ D Pr a w hm hf=>(k1 ρ D Pr a w hm hf).1) (by simp) ρ D Pr a w hm hf,fun _=>not_loop (by simp) _⟩⟩
 | cond x y z =>
  obtain ⟨t,ht,h⟩:=obind_some (show obind (obind (evalX x fr) AV.asBool) (fun t=>rec (.code K (sw t y z) fr s))=some r from h)
  obtain ⟨v,hv,ht⟩:=obind_some ht
  have ht:=asBool_some ht
  subst ht
  obtain ⟨e1,fr1,s1,rfl,k1⟩:=hcode K _ fr s r h
  refine ⟨e1,fr1,s1,rfl,fun ρ D Pr a w hm hf=>⟨?_,fun _=>not_loop (by simp) _⟩⟩
  have hs:=sees_of hf hm.gl (xs:=[x]) (fun _ _ hX=>hX)
  refine wp_cond (t:=t) (hs x (by simp) _ hv).1 ?_
  have:=(k1 ρ D Pr a w hm hf).1
  rw [sw_eq] at this
  exact this
 | block id x =>
  obtain ⟨r1,h1,h⟩:=obind_some (show obind (rec (.code K x fr s)) (thenBlock id)=some r from h)
  obtain ⟨e1,fr1,s1,rfl,k1⟩:=hcode K x fr s r1 h1
  cases e1 with
  | normal =>
   obtain rfl:=Option.some.inj (show some (Res.code .normal fr1 s1)=some r from h)
   refine ⟨_,_,_,rfl,fun ρ D Pr a w hm hf=>⟨wp_block (wp_mono (k1 ρ D Pr a w hm hf).1 fun e' a' w' hq=>?_),fun _=>not_loop (by simp) _⟩⟩
   obtain ⟨rfl,hq⟩:=hq
   exact ⟨rfl,hq⟩
  | exit i =>
   obtain rfl:=Option.some.inj (show some (Res.code (sw (Nat.beq i id) .normal (.exit i)) fr1 s1)=some r from h)
   refine ⟨_,_,_,rfl,fun ρ D Pr a w hm hf=>⟨wp_block (wp_mono (k1 ρ D Pr a w hm hf).1 fun e' a' w' hq=>?_),fun _=>not_loop (by simp) _⟩⟩
   obtain ⟨rfl,hq⟩:=hq
   show if i=id then After' P ρ D K Pr s w (sw (Nat.beq i id) .normal (.exit i)) fr1 s1 .normal a' w' else After' P ρ D K Pr s w (sw (Nat.beq i id) .normal (.exit i)) fr1 s1 (.exit i) a' w'
   rw [sw_eq,nbeq_eq]
   by_cases e:i=id
   ·rw [if_pos e,if_pos (by simpa using e)]
    exact ⟨rfl,hq⟩
   ·rw [if_neg e,if_neg (by simpa using e)]
    exact ⟨rfl,hq⟩
  | ret =>
   obtain rfl:=Option.some.inj (show some (Res.code .ret fr1 s1)=some r from h)
   refine ⟨_,_,_,rfl,fun ρ D Pr a w hm hf=>⟨wp_block (wp_mono (k1 ρ D Pr a w hm hf).1 fun e' a' w' hq=>?_),fun _=>not_loop (by simp) _⟩⟩
   obtain ⟨rfl,hq⟩:=hq
   exact ⟨rfl,hq⟩
 | loop x =>
  obtain ⟨r1,h1,h⟩:=obind_some (show obind (rec (.code K x fr s)) (thenSeq rec K (.loop x))=some r from h)
  obtain ⟨e1,fr1,s1,rfl,k1⟩:=hcode K x fr s r1 h1
  have key:∃ e fr' s',r=.code e fr' s'∧∀ (ρ:Ren) (D:Dom) (Pr:Nat→Prop) (a:Act) (w:World),MemOk P ρ D K Pr s w→FrOk P ρ D noX fr a→LoopWp P x (After' P ρ D K Pr s w e fr' s') a w:=by
   cases e1 with
   | normal =>
    obtain ⟨e2,fr2,s2,rfl,k2⟩:=hcode K (.loop x) fr1 s1 r (show rec (.code K (.loop x) fr1 s1)=some r from h)
    refine ⟨e2,fr2,s2,rfl,fun ρ D Pr a w hm hf=>LoopWp.round (wp_mono (k1 ρ D Pr a w hm hf).1 fun e' a' w' hq=>?_)⟩
    obtain ⟨rfl,ρ',D',ho⟩:=hq
    exact ((k2 ρ' D' Pr a' w' ho.mem ho.fr).2 x rfl).mono fun e a w hq=>After'.trans ho hq
   | exit i =>
    obtain rfl:=Option.some.inj (show some (Res.code (.exit i) fr1 s1)=some r from h)
    refine ⟨_,_,_,rfl,fun ρ D Pr a w hm hf=>LoopWp.round (wp_mono (k1 ρ D Pr a w hm hf).1 fun e' a' w' hq=>?_)⟩
    obtain ⟨rfl,hq⟩:=hq
    exact ⟨rfl,hq⟩
   | ret =>
    obtain rfl:=Option.some.inj (show some (Res.code .ret fr1 s1)=some r from h)
    refine ⟨_,_,_,rfl,fun ρ D Pr a w hm hf=>LoopWp.round (wp_mono (k1 ρ D Pr a w hm hf).1 fun e' a' w' hq=>?_)⟩
    obtain ⟨rfl,hq⟩:=hq
    exact ⟨rfl,hq⟩
  obtain ⟨e,fr',s',rfl,hk⟩:=key
  refine ⟨e,fr',s',rfl,fun ρ D Pr a w hm hf=>⟨(hk ρ D Pr a w hm hf).wp,fun body hb=>?_⟩⟩
  obtain rfl:=Code.loop.inj hb
  exact hk ρ D Pr a w hm hf
 | scope x =>
  obtain ⟨e1,fr1,s1,rfl,k1⟩:=hcode K x fr s r h
  refine ⟨e1,fr1,s1,rfl,fun ρ D Pr a w hm hf=>⟨wp_scope_straight (wp_mono (k1 ρ D Pr a w hm hf).1 fun e' a' w' hq=>?_),fun _=>not_loop (by simp) _⟩⟩
  obtain ⟨rfl,hq⟩:=hq
  cases e1 <;> exact ⟨rfl,hq⟩
 | rangeFunc=>cases h
 | goto=>cases h
 | refuse=>cases h
end
end Go.Ev
namespace Go.Ev
section
variable {P:Program} {E:Env} {ρ ρ':Ren} {D D':Dom} {K:Mem} {Pr:Nat→Prop} {s s':St} {w w':World} {fr fr':Fr} {X:Tmp→Prop} {a a':Act} {rec:Rec}
def resOf (tmps:Array Value):ResultVar→Sem Value
 | .tmp t=>pure (tmps.getD t undef)
 | .cell a t=>do loadVar t (← asAddr (tmps.getD a undef))
theorem results_eq (fn:Func) (tmps:Array Value):results fn tmps=(do let vs ← fn.results.mapM (resOf tmps);pure (if h:vs.size=1 then vs[0] else .tuple vs)):=by
 unfold results
 congr 1
theorem resultA_ok (hE:TysOk P E) (hm:MemOk P ρ D K Pr s w) (hf:FrOk P ρ D noX fr a) {x:ResultVar} {v:AV} (h:resultA E K fr s x=some v):v.inD D∧(resOf a.tmps x).run P w=.ok (v.toV ρ) w:=by
 cases x with
 | tmp t =>
  have h:evTmp t fr=some v:=h
  rw [evTmp_eq] at h
  obtain rfl:=Option.some.inj h
  obtain ⟨h1,h2⟩:=hf.tmps t (fun hX=>hX)
  refine ⟨h2,?_⟩
  show Sem.run P (.pure (a.tmps.getD t undef)) w=_
  rw [h1]
  rfl
 | cell t ty =>
  obtain ⟨q,hq,h⟩:=obind_some (show obind (obind (evTmp t fr) AV.asPtr) (loadNow E K s ty)=some v from h)
  obtain ⟨u,hu,hq⟩:=obind_some hq
  have hq:=asPtr_some hq
  subst hq
  rw [evTmp_eq] at hu
  have hu:=Option.some.inj hu
  obtain ⟨h1,h2⟩:=hf.tmps t (fun hX=>hX)
  rw [hu] at h1 h2
  obtain ⟨i,hi,h⟩:=obind_some h
  obtain ⟨ob,hob,hv⟩:=obind_some h
  obtain ⟨g1,g2,g3⟩:=hm.look hob
  obtain ⟨h3,h4⟩:=run_loadVar (ρ:=ρ) (n:=q.1) (hE.ty _ _ hi) hv g2
  refine ⟨h3,?_⟩
  simp only [resOf,h1,AV.toV,Option.map_some,asAddr,Sem.run_bind,Sem.run_pure,Result.andThen_ok]
  exact h4 w g3
theorem resultsA_ok (hE:TysOk P E) (hm:MemOk P ρ D K Pr s w) (hf:FrOk P ρ D noX fr a):∀ {l:List ResultVar} {vs:List AV},resultsA E K fr s l=some vs→allIn D vs∧(l.mapM (resOf a.tmps)).run P w=.ok (toVs ρ vs) w:=by
 intro l
 induction l with
 | nil =>
  intro vs h
  obtain rfl:[]=vs:=Option.some.inj h
  exact ⟨trivial,rfl⟩
 | cons x l ih =>
  intro vs h
  have h:lmapO (resultA E K fr s) (x :: l)=some vs:=h
  rw [lmapO_cons,Option.bind_eq_some_iff] at h
  obtain ⟨v,hv,h⟩:=h
  obtain ⟨vs',hvs,rfl⟩:=Option.map_eq_some_iff.1 h
  obtain ⟨h1,h2⟩:=resultA_ok hE hm hf hv
  obtain ⟨h3,h4⟩:=ih hvs
  refine ⟨⟨h1,h3⟩,?_⟩
  simp only [List.mapM_cons,Sem.run_bind,h2,Result.andThen_ok,h4,Sem.run_pure,toVs]
theorem oneOrTuple_toV (vs:List AV):(oneOrTuple vs).toV ρ=(if h:(⟨toVs ρ vs⟩:Array Value).size=1 then (⟨toVs ρ vs⟩:Array Value)[0] else .tuple ⟨toVs ρ vs⟩):=by
 match vs with
 | []=>rfl
 | [v]=>rfl
 | v :: u :: vs =>
  rw [dif_neg]
  ·rfl
  ·show (toVs ρ (v :: u :: vs)).length≠1
   simp [toVs]
theorem oneOrTuple_inD {vs:List AV} (h:allIn D vs):(oneOrTuple vs).inD D:=by
 match vs,h with
 | [],_=>trivial
 | [v],h=>exact h.1
 | v :: u :: vs,h=>exact h
theorem results_ok (hE:TysOk P E) (hm:MemOk P ρ D K Pr s w) (hf:FrOk P ρ D noX fr a) {fn:Func} {vs:List AV} (h:resultsA E K fr s fn.results.toList=some vs):(oneOrTuple vs).inD D∧(results fn a.tmps).run P w=.ok ((oneOrTuple vs).toV ρ) w:=by
 obtain ⟨h1,h2⟩:=resultsA_ok hE hm hf h
 refine ⟨oneOrTuple_inD h1,?_⟩
 rw [results_eq,Array.mapM_eq_mapM_toList]
 simp only [Sem.run_bind,map_eq_pure_bind,bind_assoc,pure_bind,h2,Result.andThen_ok,Sem.run_pure]
 rw [oneOrTuple_toV]
def DCallOk (P:Program) (rec:Rec):Prop:=∀ K f args s r,rec (.dcall K f args s)=some r→∃ v s',r=.call v s'∧(∃ fn,P.funcs[f]? = some fn∧(fn.name == "runtime.NumGoroutine")=false∧fn.body.isNone=false) ∧
 ∀ (ρ:Ren) (D:Dom) (Pr:Nat→Prop) (w:World),MemOk P ρ D K Pr s w→allIn D args→CallsD P f ⟨toVs ρ args⟩ .returning w fun e u w'=>∃ val ρ' D',e=.returned val∧u=.returning∧Post P ρ D K Pr s w v s' val w' ρ' D'
theorem leaves_ok (hN:EnvOk P E) (hdc:DCallOk P rec) {fn:Func} {R:Ending→World→Prop}:∀ (ds:List Deferred) (ps:List (FuncId×List AV)) (s:St) (w:World) (ρ:Ren) (D:Dom),MemOk P ρ D K Pr s w→FrOk P ρ D noX fr a→DefsOk ρ ds ps→(∀ p∈ps,allIn D p.2) →
 ∀ sF,runDefs E rec K ps s=some sF→(∀ w' ρ' D',Out P ρ D K Pr s w noX fr sF a w' ρ' D'→∃ v,(results fn a.tmps).run P w'=.ok v w'∧R (.returned v) w')→Leaves P fn a.tmps R ds .returning w:=by
 intro ds
 induction ds with
 | nil =>
  intro ps s w ρ D hm hf hd _ sF hr hR
  cases ps with
  | cons p ps=>exact hd.elim
  | nil =>
   obtain rfl:s=sF:=Option.some.inj hr
   exact hR w ρ D (Out.refl hm hf)
 | cons d ds ih =>
  intro ps s w ρ D hm hf hd hin sF hr hR
  cases ps with
  | nil=>exact hd.elim
  | cons p ps =>
   obtain ⟨⟨cap,h1,h2⟩,h3⟩:=hd
   have hr:oelim (E.dx.get p.1) (obind (rec (.dcall K p.1 p.2 s)) (defThen (runDefs E rec K ps))) (fun n=>grd (Nat.beq (llen p.2) n) (runDefs E rec K ps s))=some sF:=hr
   obtain ⟨t,args⟩:=d
   have h1:t=.fn (.func p.1) cap:=h1
   subst h1
   have h2:args ++ cap=⟨toVs ρ p.2⟩:=h2
   have hin':∀ q∈ps,allIn D q.2:=fun q hq=>hin q (List.mem_cons_of_mem _ hq)
   cases hx:E.dx.get p.1 with
   | some n =>
    rw [hx] at hr
    obtain ⟨hn,hr⟩:=grd_some (show grd (Nat.beq (llen p.2) n) (runDefs E rec K ps s)=some sF from hr)
    rw [nbeq_eq,llen_eq,decide_eq_true_eq] at hn
    obtain ⟨⟨f,g1,g2,g3⟩,g4⟩:=hN.dx p.1 n hx
    refine leaves_cons (f:=p.1) (args:=args ++ cap) (by simp) (run_callFunc g1 g2 g3 w) ?_
    refine (g4 (args ++ cap) w (by rw [h2];show (toVs ρ p.2).length=n;rw [toVs_length];exact hn)).mono fun e u' w' hq=>?_
    obtain ⟨⟨v,rfl⟩,rfl,rfl⟩:=hq
    exact ih ps s w' ρ D hm hf h3 hin' sF hr hR
   | none =>
    rw [hx] at hr
    obtain ⟨r,hr1,hr⟩:=obind_some (show obind (rec (.dcall K p.1 p.2 s)) (defThen (runDefs E rec K ps))=some sF from hr)
    obtain ⟨v,s',rfl,⟨f,g1,g2,g3⟩,hc⟩:=hdc K p.1 p.2 s r hr1
    have hr:runDefs E rec K ps s'=some sF:=hr
    refine leaves_cons (f:=p.1) (args:=args ++ cap) (by simp) (run_callFunc g1 g2 g3 w) ?_
    rw [h2]
    refine (hc ρ D Pr w hm (hin p (by simp))).mono fun e u' w' hq=>?_
    obtain ⟨val,ρ',D',rfl,rfl,hp⟩:=hq
    have ho:Out P ρ D K Pr s w noX fr s' a w' ρ' D':=⟨hp.agree,hp.grow,hp.fresh,hp.mem,hp.keeps,hp.le,hf.ext hp.agree hp.grow⟩
    exact ih ps s' w' ρ' D' hp.mem ho.fr (h3.ext hp.agree hin') (fun q hq=>allIn_mono hp.grow _ (hin' q hq)) sF hr fun w'' ρ'' D'' ho'=>hR w'' ρ'' D'' (ho.trans ho')
theorem enter_frame (hN:EnvOk P E) {args:List AV} {fn:Func} (hl:args.length≤fn.ntmps) (hd:allIn D args):FrOk P ρ D noX ⟨fn.ntmps,E.gl,Tr.ofList args,[]⟩ { tmps:=(⟨toVs ρ args⟩:Array Value) ++ Array.replicate (fn.ntmps - (⟨toVs ρ args⟩:Array Value).size) undef,defers:=[] }:=by
 have hsz:(⟨toVs ρ args⟩:Array Value).size=args.length:=toVs_length args
 refine ⟨?_,hN.gl,fun t _=>?_,trivial,fun p hp=>(by cases hp)⟩
 ·rw [Array.size_append,Array.size_replicate,hsz]
  show args.length+(fn.ntmps - args.length)=fn.ntmps
  omega
 ·have hev:evT t ⟨fn.ntmps,E.gl,Tr.ofList args,[]⟩=(args[t]?).getD undefA:=by
   unfold evT
   show ((Tr.ofList args).get t).getD undefA=_
   rw [Tr.get_ofList]
  rw [hev]
  show ((⟨toVs ρ args⟩:Array Value) ++ _).getD t undef=_∧_
  rw [Array.getD_eq_getD_getElem?,Array.getElem?_append,hsz]
  split
  ·rename_i ht
   have hlt:args[t]? = some args[t]:=List.getElem?_eq_getElem ht
   refine ⟨?_,?_⟩
   ·have:(⟨toVs ρ args⟩:Array Value)[t]? = some (args[t].toV ρ):=by
     rw [List.getElem?_toArray,toVs_eq,List.getElem?_map,hlt]
     rfl
    rw [this,hlt]
    rfl
   ·rw [hlt]
    exact (allIn_iff D args).1 hd _ (List.getElem_mem ht)
  ·rename_i ht
   have hnone:args[t]? = none:=List.getElem?_eq_none (by omega)
   rw [hnone,Array.getElem?_replicate]
   refine ⟨?_,trivial⟩
   split <;> rfl
theorem body_ok (hN:EnvOk P E) (hcode:CodeOk P rec) {f:FuncId} {fn:Func} {args:List AV} {r:Res} (hfn:E.fn.get f=some fn) (h:bodyOf E rec K args s fn=some r):∃ c e fr' s',fn.body=some c∧r=.code e fr' s'∧P.funcs[f]? = some fn∧(fn.name == "runtime.NumGoroutine")=false ∧
 ∀ (ρ:Ren) (D:Dom) (Pr:Nat→Prop) (w:World),MemOk P ρ D K Pr s w→allIn D args→c.wp P (After' P ρ D K Pr s w e fr' s') { tmps:=(⟨toVs ρ args⟩:Array Value) ++ Array.replicate (fn.ntmps - (⟨toVs ρ args⟩:Array Value).size) undef,defers:=[] } w:=by
 obtain ⟨hf,hname⟩:=hN.fn f fn hfn
 obtain ⟨c,hc,h⟩:=obind_some h
 obtain ⟨hl,h⟩:=grd_some h
 obtain ⟨e,fr',s',rfl,hk⟩:=hcode _ _ _ _ _ h
 rw [ble_eq,llen_eq,decide_eq_true_eq] at hl
 exact ⟨c,e,fr',s',hc,rfl,hf,hname,fun ρ D Pr w hm hd=>(hk ρ D Pr _ w hm (enter_frame hN hl hd)).1⟩
theorem call_ok (hN:EnvOk P E) (hcode:CodeOk P rec) (hdc:DCallOk P rec) {f:FuncId} {args:List AV} {r:Res} (h:obind (E.fn.get f) (enterFn E rec K args s)=some r):∃ v s',r=.call v s'∧(∃ fn,P.funcs[f]? = some fn∧(fn.name == "runtime.NumGoroutine")=false∧fn.body.isNone=false) ∧
 ∀ (ρ:Ren) (D:Dom) (Pr:Nat→Prop) (w:World),MemOk P ρ D K Pr s w→allIn D args→Calls P f ⟨toVs ρ args⟩ w fun e w'=>∃ val ρ' D',e=.returned val∧Post P ρ D K Pr s w v s' val w' ρ' D':=by
 obtain ⟨fn,hfn,h⟩:=obind_some h
 obtain ⟨r1,hr1,h⟩:=obind_some h
 obtain ⟨c,e,fr',s',hc,rfl,hf,hname,hk⟩:=body_ok hN hcode hfn hr1
 obtain ⟨hne,h⟩:=grd_some (show grd (notExit e) (obind (runDefs E rec K fr'.defs s') fun s'=>omap (fun vs=>.call (oneOrTuple vs) s') (resultsA E K fr' s' fn.results.toList))=some r from h)
 obtain ⟨sF,hdefs,h⟩:=obind_some h
 obtain ⟨vs,hvs,rfl⟩:=omap_some h
 refine ⟨_,_,rfl,⟨fn,hf,hname,by rw [hc];rfl⟩,fun ρ D Pr w hm hd=>?_⟩
 refine calls_of_wp_defers hf hc (wp_mono (hk ρ D Pr w hm hd) fun x a' w' hq=>?_)
 obtain ⟨rfl,ρ',D',ho⟩:=hq
 have hL:=leaves_ok hN hdc (fn:=fn) (R:=fun e w'=>∃ val ρ' D',e=.returned val∧Post P ρ D K Pr s w (oneOrTuple vs) sF val w' ρ' D') a'.defers fr'.defs s' w' ρ' D' ho.mem ho.fr ho.fr.defs.1 ho.fr.defs.2 sF hdefs fun w2 ρ2 D2 ho2=>by
  obtain ⟨g1,g2⟩:=results_ok hN.toTysOk ho2.mem ho2.fr hvs
  have ho3:=ho.trans ho2
  exact ⟨_,g2,_,ρ2,D2,rfl,⟨ho3.agree,ho3.grow,ho3.fresh,ho3.mem,ho3.keeps,rfl,g1,ho3.le⟩⟩
 cases e with
 | normal=>exact hL
 | ret=>exact hL
 | exit i=>cases hne
theorem dcall_ok (hN:EnvOk P E) (hcode:CodeOk P rec) {f:FuncId} {args:List AV} {r:Res} (h:obind (E.fn.get f) (enterD E rec K args s)=some r):∃ v s',r=.call v s'∧(∃ fn,P.funcs[f]? = some fn∧(fn.name == "runtime.NumGoroutine")=false∧fn.body.isNone=false) ∧
 ∀ (ρ:Ren) (D:Dom) (Pr:Nat→Prop) (w:World),MemOk P ρ D K Pr s w→allIn D args→CallsD P f ⟨toVs ρ args⟩ .returning w fun e u w'=>∃ val ρ' D',e=.returned val∧u=.returning∧Post P ρ D K Pr s w v s' val w' ρ' D':=by
 obtain ⟨fn,hfn,h⟩:=obind_some h
 obtain ⟨r1,hr1,h⟩:=obind_some h
 obtain ⟨c,e,fr',s',hc,rfl,hf,hname,hk⟩:=body_ok hN hcode hfn hr1
 obtain ⟨hne,h⟩:=grd_some (show grd (band (notExit e) (isNilB fr'.defs)) (omap (fun vs=>.call (oneOrTuple vs) s') (resultsA E K fr' s' fn.results.toList))=some r from h)
 obtain ⟨vs,hvs,rfl⟩:=omap_some h
 rw [band_eq,Bool.and_eq_true,isNilB_eq,List.isEmpty_iff] at hne
 obtain ⟨hne,hnil⟩:=hne
 refine ⟨_,_,rfl,⟨fn,hf,hname,by rw [hc];rfl⟩,fun ρ D Pr w hm hd=>?_⟩
 have key:=callsD_of_wp (u:=.returning) (R:=fun e w'=>∃ val ρ' D',e=.returned val∧Post P ρ D K Pr s w (oneOrTuple vs) s' val w' ρ' D') hf hc (wp_mono (hk ρ D Pr w hm hd) fun x a' w' hq=>by
  obtain ⟨rfl,ρ',D',ho⟩:=hq
  have hdn:a'.defers=[]:=by
   have:=ho.fr.defs.1
   rw [hnil] at this
   cases hda:a'.defers with
   | nil=>rfl
   | cons d ds=>rw [hda] at this;exact this.elim
  obtain ⟨g1,g2⟩:=results_ok hN.toTysOk ho.mem ho.fr hvs
  have hX:a'.defers=[]∧∃ v,(results fn a'.tmps).run P w'=.ok v w'∧∃ val ρ' D',Ending.returned v=.returned val∧Post P ρ D K Pr s w (oneOrTuple vs) s' val w' ρ' D' :=
   ⟨hdn,_,g2,_,ρ',D',rfl,⟨ho.agree,ho.grow,ho.fresh,ho.mem,ho.keeps,rfl,g1,ho.le⟩⟩
  cases e with
  | normal=>exact hX
  | ret=>exact hX
  | exit i=>cases hne)
 exact key.mono fun e u w' ⟨hu,val,ρ',D',he,hp⟩=>⟨val,ρ',D',he,hu,hp⟩
theorem ev_ok (hN:EnvOk P E):∀ n,CallOk P (ev E n)∧CodeOk P (ev E n)∧DCallOk P (ev E n):=by
 intro n
 induction n with
 | zero=>exact ⟨fun K f args s r h=>(by cases h),fun K c fr s r h=>(by cases h),fun K f args s r h=>(by cases h)⟩
 | succ n ih=>exact ⟨fun K f args s r h=>call_ok hN ih.2.1 ih.2.2 h,fun K c fr s r h=>code_ok hN ih.1 ih.2.1 h,fun K f args s r h=>dcall_ok hN ih.2.1 h⟩
end
end Go.Ev
