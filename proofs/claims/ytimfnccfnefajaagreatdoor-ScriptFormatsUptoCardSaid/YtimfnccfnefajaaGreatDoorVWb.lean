/- A part of the proof: SpA, SpT, SpN, SpR, SpL, SpM, SpF, SpQ, SpB, SpX, SpW, SpY -/
import Derived.Lib.SplitLaws
import Derived.Lib.Join
import Derived.Lib.Replace
import Derived.Lib.TrimByte
import Derived.Lib.ItoaNum
import Derived.Lib.AtoiTie
set_option linter.unusedSimpArgs false
set_option linter.unusedVariables false
namespace Go.Sp
abbrev Bs:=List UInt8
def esc (c:UInt8):Bs:=if c=32 then [95] else if c=10 then [126,110] else if c=95 then [126,117] else if c=126 then [126,116] else [c]
def escs (s:Bs):Bs:=s.flatMap esc
def wr (s:Bs):Bs:=if s=[] then [45] else if s=[45] then [126,109] else escs s
def unesc (c:UInt8):Option UInt8:=if c=110 then some 10 else if c=117 then some 95 else if c=116 then some 126 else none
def dec (t:Option Bs):Bs→Option Bs
 | []=>some []
 | [c]=>if c=95 then some [32] else if c=126 then t else some [c]
 | c :: x :: r=>if c=95 then (dec t (x :: r)).map (32 :: ·) else if c=126 then (unesc x).bind fun y=>(dec t r).map (y :: ·) else (dec t (x :: r)).map (c :: ·)
theorem dec_plain (t:Option Bs) {c:UInt8} (h:c≠126) (r:Bs):dec t (c :: r)=(dec t r).map ((if c=95 then 32 else c) :: ·):=by
 cases r with
 | nil=>by_cases h1:c=95 <;> simp [dec,h1,h]
 | cons x r=>by_cases h1:c=95 <;> simp [dec,h1,h]
theorem dec_tilde (t:Option Bs) (x:UInt8) (r:Bs):dec t (126 :: x :: r)=(unesc x).bind fun y=>(dec t r).map (y :: ·):=by simp [dec]
theorem escs_cons (c:UInt8) (s:Bs):escs (c :: s)=esc c ++ escs s:=by simp [escs]
theorem dec_escs (t:Option Bs) (s:Bs):dec t (escs s)=some s:=by
 induction s with
 | nil=>rfl
 | cons c s ih =>
  rw [escs_cons]
  unfold esc
  by_cases h1:c=32
  ·rw [if_pos h1,List.singleton_append,dec_plain t (by decide),ih,h1];rfl
  rw [if_neg h1]
  by_cases h2:c=10
  ·rw [if_pos h2,List.cons_append,List.singleton_append,dec_tilde,ih,h2];rfl
  rw [if_neg h2]
  by_cases h3:c=95
  ·rw [if_pos h3,List.cons_append,List.singleton_append,dec_tilde,ih,h3];rfl
  rw [if_neg h3]
  by_cases h4:c=126
  ·rw [if_pos h4,List.cons_append,List.singleton_append,dec_tilde,ih,h4];rfl
  rw [if_neg h4,List.singleton_append,dec_plain t h4,ih,if_neg h3];rfl
def rd (t:Option Bs) (w:Bs):Option Bs:=if w=[45] then some [] else if w=[126,109] then some [45] else (dec t w).bind fun b=>if wr b=w then some b else none
theorem rd_iff (t:Option Bs) {w b:Bs}:rd t w=some b↔wr b=w:=by
 unfold rd
 constructor
 ·intro h
  split at h
  ·rename_i e
   rw [← Option.some.inj h,e];rfl
  ·split at h
   ·rename_i e
    rw [← Option.some.inj h,e];rfl
   ·obtain ⟨b',_,h2⟩:=Option.bind_eq_some_iff.1 h
    split at h2
    ·rename_i e
     rw [← Option.some.inj h2,e]
    ·cases h2
 ·intro h
  by_cases h1:b=[]
  ·subst h1
   rw [show w=[45] from h.symm];rfl
  ·by_cases h2:b=[45]
   ·subst h2
    rw [show w=[126,109] from h.symm];rfl
   ·have hw:w=escs b:=by rw [← h];unfold wr;rw [if_neg h1,if_neg h2]
    have hd:dec t w=some b:=by rw [hw];exact dec_escs t b
    have n1:w≠[45]:=by
     intro e
     rw [e] at hd
     exact h2 (by simpa [dec] using hd.symm)
    have n2:w≠[126,109]:=by
     intro e
     rw [e,dec_tilde] at hd
     cases hd
    rw [if_neg n1,if_neg n2,hd]
    simp [h]
theorem rd_same (t t':Option Bs) (w:Bs):rd t w=rd t' w:=by
 cases h:rd t w with
 | some b=>exact ((rd_iff t').2 ((rd_iff t).1 h)).symm
 | none =>
  cases h':rd t' w with
  | none=>rfl
  | some b=>rw [(rd_iff t).2 ((rd_iff t').1 h')] at h;cases h
theorem esc_no {c x:UInt8} (h:x∈esc c):x≠32∧x≠10:=by
 unfold esc at h
 split at h
 ·simp at h;subst h;decide
 ·split at h
  ·simp at h;rcases h with rfl | rfl <;> decide
  ·split at h
   ·simp at h;rcases h with rfl | rfl <;> decide
   ·split at h
    ·simp at h;rcases h with rfl | rfl <;> decide
    ·simp at h
     subst h
     exact ⟨by assumption,by assumption⟩
theorem wr_no {s:Bs} {x:UInt8} (h:x∈wr s):x≠32∧x≠10:=by
 unfold wr at h
 split at h
 ·simp at h;subst h;decide
 ·split at h
  ·simp at h;rcases h with rfl | rfl <;> decide
  ·unfold escs at h
   obtain ⟨c,_,hc⟩:=List.mem_flatMap.1 h
   exact esc_no hc
theorem esc_ne (c:UInt8):esc c≠[]:=by
 unfold esc
 repeat' split
 all_goals simp
theorem esc_length (c:UInt8):(esc c).length≤2:=by
 unfold esc
 repeat' split
 all_goals simp
theorem escs_length (s:Bs):(escs s).length≤2 * s.length:=by
 induction s with
 | nil=>exact Nat.le_refl _
 | cons c s ih =>
  rw [escs_cons,List.length_append,List.length_cons]
  have:=esc_length c
  omega
theorem wr_length (s:Bs):(wr s).length≤2 * s.length+1:=by
 unfold wr
 split
 ·simp
 ·split
  ·rename_i h;rw [h];decide
  ·have:=escs_length s
   omega
def splitL (c:UInt8):Bs→List Bs
 | []=>[[]]
 | x :: r=>if x=c then [] :: splitL c r else match splitL c r with | []=>[[x]] | p :: ps=>(x :: p) :: ps
theorem splitL_cons (c:UInt8) (s:Bs):∃ p ps,splitL c s=p :: ps:=by
 induction s with
 | nil=>exact ⟨[],[],rfl⟩
 | cons x r ih =>
  obtain ⟨p,ps,h⟩:=ih
  unfold splitL
  split
  ·exact ⟨_,_,rfl⟩
  ·rw [h];exact ⟨_,_,rfl⟩
theorem splitL_hit (c:UInt8) (r:Bs):splitL c (c :: r)=[] :: splitL c r:=by rw [splitL,if_pos rfl]
theorem splitL_miss {c x:UInt8} (h:x≠c) {r p:Bs} {ps:List Bs} (hp:splitL c r=p :: ps):splitL c (x :: r)=(x :: p) :: ps:=by
 rw [splitL,if_neg h,hp]
theorem index_one_hit (c:UInt8) (r:Bs):Lib.index (c :: r) [c]=0:=by rw [Lib.index];simp [List.isPrefixOf]
theorem index_one_miss {c x:UInt8} (h:x≠c) (r:Bs):Lib.index (x :: r) [c]=if Lib.index r [c] == -1 then -1 else Lib.index r [c]+1:=by
 rw [Lib.index]
 simp [List.isPrefixOf,Ne.symm h]
theorem lib_split (c:UInt8) (s:Bs):Lib.split s [c]=splitL c s:=by
 unfold Lib.split
 rw [Lib.count_one]
 induction s with
 | nil=>rfl
 | cons x r ih =>
  by_cases h:x=c
  ·subst h
   rw [splitL_hit,List.count_cons_self,Lib.splitK,index_one_hit,← ih]
   rfl
  ·rw [List.count_cons_of_ne (by simpa using h)]
   obtain ⟨p,ps,hp⟩:=splitL_cons c r
   rw [splitL_miss h hp]
   rw [hp] at ih
   cases hk:r.count c with
   | zero =>
    rw [hk] at ih
    have ih:[r]=p :: ps:=ih
    obtain ⟨rfl,rfl⟩:=List.cons.inj ih
    rfl
   | succ k =>
    rw [hk,Lib.splitK] at ih
    rw [Lib.splitK,index_one_miss h]
    by_cases hm:Lib.index r [c] = -1
    ·rw [if_pos (beq_iff_eq.2 hm)] at ih
     rw [if_pos (beq_iff_eq.2 hm)]
     obtain ⟨rfl,rfl⟩:=List.cons.inj ih
     rfl
    ·have hge:=Lib.index_ge r [c]
     obtain ⟨j,hj⟩:∃ j:Nat,Lib.index r [c]=j:=⟨(Lib.index r [c]).toNat,by omega⟩
     have hm2:¬ ((j:Int) == -1)=true:=by rw [beq_iff_eq];omega
     have hm3:¬ ((j:Int)+1 == -1)=true:=by rw [beq_iff_eq];omega
     rw [hj,if_neg hm2] at ih
     rw [hj,if_neg hm2,if_neg hm3]
     have e1:((j:Int)+1).toNat=j+1:=by omega
     have e2:(j:Int).toNat=j:=by omega
     rw [e2] at ih
     rw [e1]
     obtain ⟨h1,h2⟩:=List.cons.inj ih
     rw [← h1,← h2]
     have e3:(j+1)+[c].length=(j+[c].length)+1:=by omega
     rw [e3]
     rfl
theorem splitL_no {c:UInt8} {s:Bs} (h:c ∉ s):splitL c s=[s]:=by
 induction s with
 | nil=>rfl
 | cons x r ih =>
  rw [List.mem_cons,not_or] at h
  rw [splitL_miss (Ne.symm h.1) (ih h.2)]
theorem splitL_app {c:UInt8} {a:Bs} (h:c ∉ a) (r:Bs):splitL c (a ++ c :: r)=a :: splitL c r:=by
 induction a with
 | nil=>exact splitL_hit c r
 | cons x a ih =>
  rw [List.mem_cons,not_or] at h
  rw [List.cons_append,splitL_miss (Ne.symm h.1) (ih h.2)]
theorem splitL_join {c:UInt8}:∀ {ps:List Bs},ps≠[]→(∀ p∈ps,c ∉ p)→splitL c (Lib.join ps [c])=ps
 | [],h,_=>absurd rfl h
 | [p],_,hn=>by rw [Lib.join_one];exact splitL_no (hn p List.mem_cons_self)
 | p :: q :: r,_,hn=>by
  have e:Lib.join (p :: q :: r) [c]=p ++ c :: Lib.join (q :: r) [c]:=by
   rw [Lib.join_cons,Lib.join_cons]
   simp [Lib.joinTail]
  rw [e,splitL_app (hn p List.mem_cons_self),splitL_join (by simp) fun x hx=>hn x (List.mem_cons_of_mem _ hx)]
theorem join_splitL (c:UInt8) (s:Bs):Lib.join (splitL c s) [c]=s:=by
 induction s with
 | nil=>rfl
 | cons x r ih =>
  obtain ⟨p,ps,hp⟩:=splitL_cons c r
  rw [hp,Lib.join_cons] at ih
  by_cases hx:x=c
  ·subst hx
   rw [splitL_hit,hp,Lib.join_cons,← ih]
   simp [Lib.joinTail]
  ·rw [splitL_miss hx hp,Lib.join_cons,← ih]
   rfl
end Go.Sp
namespace Go.Sp
def nms:List Bs:=[[],[84,97,108,107],[85,115,101,114],[84,101,109,112,108,97,116,101],[67,97,116,101,103,111,114,121],[80,114,111,106,101,99,116]]
def low (c:UInt8):UInt8:=if 65≤c∧c≤90 then c+32 else c
def badB (c:UInt8):Bool:=decide (c<32) || c == 127 || [60,62,91,93,123,125,124,35,95].contains c
def okAt (s:Bs) (i:Nat):Bool:=match s[i]? with
 | none=>true
 | some c=>!badB c && !(c == 32 && decide (0<i) && s[i - 1]? == some 32)
def cleanB (s:Bs):Bool:=(List.range s.length).all (okAt s)
def partOk (p:Bs):Bool:=!p.isEmpty && p.head? != some 32 && p.getLast? != some 32
def spaceOf (n:Bs):Option Nat:=[1,2,3,4,5].find? fun i=>n.map low == (nms.getD i []).map low
def pre (s:Bs):Option (Nat×Bs):=if 0≤Lib.index s [58] then (spaceOf (Lib.trimSuffix (Lib.cut s [58]).1 [32])).map fun i=>(i,(Lib.cut s [58]).2.1) else none
def lowHead (s:Bs):Bool:=s.head?.any fun c=>decide (97≤c) && decide (c≤122)
def valid (sp:Int) (s:Bs):Bool:=decide (0≤sp) && decide (sp<6) && decide (1≤s.length) && decide (s.length≤100) && cleanB s && (splitL 47 s).all partOk && s.head? != some 58 && !lowHead s && (sp != 0 || (pre s).isNone)
def fmt (sp:Int) (s:Bs):Bs:=if valid sp s then if sp=0 then s else nms.getD sp.toNat [] ++ 58 :: s else []
def sing:Bs→Bs→Bs
 | acc,[]=>acc
 | acc,c :: r=>sing (if c≠32∨(acc≠[]∧acc.getLast? ≠ some 32) then acc ++ [c] else acc) r
def single (s:Bs):Bs:=Lib.trimSuffix (sing [] s) [32]
def slash1 (n i:Nat) (p:Bs):Bs:=if i+1<n then Lib.trimRightB (if 0<i then Lib.trimLeftB p 32 else p) 32 else if 0<i then Lib.trimLeftB p 32 else p
def slashes (s:Bs):Bs:=Lib.join ((splitL 47 s).mapIdx (slash1 (splitL 47 s).length)) [47]
def upHead:Bs→Bs
 | []=>[]
 | c :: r=>if 97≤c∧c≤122 then (c - 32) :: r else c :: r
def ends (n:Int) (s:Bs):Int×Int×Bs:=if 100<s.length then (3,0,[]) else if valid n s then (0,n,s) else (1,0,[])
def colon (s:Bs):Bs:=if Lib.hasPrefix s [58] then Lib.trimPrefix (s.drop 1) [32] else s
def rest (s:Bs):Nat×Bs:=match pre s with
 | some (i,a)=>(i,Lib.trimPrefix a [32])
 | none=>(0,s)
def parseP (s:Bs):Int×Int×Bs:=ends (rest (colon (single (Lib.replaceAll s [95] [32])))).1 (upHead (slashes (rest (colon (single (Lib.replaceAll s [95] [32])))).2))
theorem valid_parts {sp:Int} {s:Bs} (h:valid sp s=true):0≤sp∧sp<6∧1≤s.length∧s.length≤100∧cleanB s=true∧(splitL 47 s).all partOk=true∧s.head? ≠ some 58∧lowHead s=false∧(sp=0→pre s=none):=by
 unfold valid at h
 simp only [Bool.and_eq_true,decide_eq_true_eq,bne_iff_ne,Bool.not_eq_true',Bool.or_eq_true,Option.isNone_iff_eq_none,ne_eq] at h
 obtain ⟨⟨⟨⟨⟨⟨⟨⟨h1,h2⟩,h3⟩,h4⟩,h5⟩,h6⟩,h7⟩,h8⟩,h9⟩:=h
 exact ⟨h1,h2,h3,h4,h5,h6,h7,h8,fun e=>h9.resolve_left (fun n=>n e)⟩
theorem cleanB_at {s:Bs} (h:cleanB s=true) {i:Nat} {c:UInt8} (hc:s[i]? = some c):badB c=false∧¬ (c=32∧0<i∧s[i - 1]? = some 32):=by
 unfold cleanB at h
 have hi:i<s.length:=(List.getElem?_eq_some_iff.1 hc).1
 have:=List.all_eq_true.1 h i (List.mem_range.2 hi)
 unfold okAt at this
 rw [hc] at this
 simp only [Bool.and_eq_true,Bool.not_eq_true',Bool.and_eq_false_imp,beq_iff_eq,decide_eq_true_eq] at this
 refine ⟨this.1,fun ⟨h1,h2,h3⟩=>?_⟩
 have h4:=this.2
 rw [h1,h3] at h4
 simp [h2] at h4
theorem cleanB_mem {s:Bs} (h:cleanB s=true) {c:UInt8} (hc:c∈s):badB c=false:=by
 obtain ⟨i,hi⟩:=List.getElem?_of_mem hc
 exact (cleanB_at h hi).1
theorem cleanB_dbl {s:Bs} (h:cleanB s=true) {i:Nat} (hi:s[i]? = some 32):s[i+1]? ≠ some 32:=by
 intro h1
 exact (cleanB_at h h1).2 ⟨rfl,Nat.succ_pos i,hi⟩
theorem clean_no {s:Bs} (h:cleanB s=true) {c:UInt8} (hc:badB c=true):c ∉ s:=fun hm=>by
 rw [cleanB_mem h hm] at hc
 cases hc
theorem head_ok {s:Bs} (h:(splitL 47 s).all partOk=true):s.head? ≠ some 32:=by
 cases s with
 | nil=>simp
 | cons c r =>
  intro e
  obtain rfl:c=32:=by simpa using e
  obtain ⟨p,ps,hp⟩:=splitL_cons 47 r
  rw [splitL_miss (by decide) hp] at h
  simp [partOk] at h
theorem last_ok:∀ {s:Bs},(∀ p∈splitL 47 s,p.getLast? ≠ some 32)→s.getLast? ≠ some 32
 | [],_=>by simp
 | [x],h=>by
  by_cases hx:x=47
  ·subst hx;simp
  ·intro e
   have:=h [x] (by rw [splitL_miss hx (show splitL 47 []=[] :: [] from rfl)];simp)
   exact this e
 | x :: y :: r,h=>by
  have ih:=last_ok (s:=y :: r)
  rw [List.getLast?_cons_cons]
  apply ih
  intro p hp
  by_cases hx:x=47
  ·subst hx
   exact h p (by rw [splitL_hit];exact List.mem_cons_of_mem _ hp)
  ·obtain ⟨q,qs,hq⟩:=splitL_cons 47 (y :: r)
   rw [splitL_miss hx hq] at h
   rw [hq] at hp
   rcases List.mem_cons.1 hp with rfl | hp
   ·have:=h (x :: p) List.mem_cons_self
    cases p with
    | nil=>simp
    | cons z zs=>rwa [List.getLast?_cons_cons] at this
   ·exact h p (List.mem_cons_of_mem _ hp)
theorem parts_ok {s p:Bs} (h:(splitL 47 s).all partOk=true) (hp:p∈splitL 47 s):p≠[]∧p.head? ≠ some 32∧p.getLast? ≠ some 32:=by
 have:=List.all_eq_true.1 h p hp
 unfold partOk at this
 simp only [Bool.and_eq_true,Bool.not_eq_true',List.isEmpty_eq_false_iff,bne_iff_ne,ne_eq] at this
 exact ⟨this.1.1,this.1.2,this.2⟩
theorem replace_id {s:Bs} (h:95 ∉ s):Lib.replaceAll s [95] [32]=s:=by
 have hc:Lib.count s [95]=0:=by rw [Lib.count_one,List.count_eq_zero];exact h
 unfold Lib.replaceAll Lib.replace Lib.replaceNum
 rw [hc]
 rfl
theorem sing_id:∀ {r acc:Bs},(acc=[]→r.head? ≠ some 32)→(acc.getLast? = some 32→r.head? ≠ some 32)→(∀ i:Nat,r[i]? = some 32→r[i+1]? ≠ some 32)→sing acc r=acc ++ r
 | [],acc,_,_,_=>by simp [sing]
 | c :: r,acc,h1,h2,h3=>by
  have hc:c≠32∨(acc≠[]∧acc.getLast? ≠ some 32):=by
   by_cases e:c=32
   ·right
    subst e
    exact ⟨fun e=>h1 e rfl,fun e=>h2 e rfl⟩
   ·exact .inl e
  rw [sing,if_pos hc,sing_id (by simp) (fun e=>?_) (fun i hi=>by have:=h3 (i+1) (by simpa using hi);simpa using this)]
  ·simp
  ·rw [List.getLast?_concat] at e
   obtain rfl:c=32:=Option.some.inj e
   have:=h3 0 rfl
   simpa [List.head?_eq_getElem?] using this
theorem trimSuffix_id {s:Bs} (h:s.getLast? ≠ some 32):Lib.trimSuffix s [32]=s:=by
 unfold Lib.trimSuffix Lib.hasSuffix
 rw [if_neg]
 intro e
 obtain ⟨t,rfl⟩:=List.isSuffixOf_iff_suffix.1 e
 exact h (by simp)
theorem trimPrefix_id {s:Bs} (h:s.head? ≠ some 32):Lib.trimPrefix s [32]=s:=by
 unfold Lib.trimPrefix Lib.hasPrefix
 rw [if_neg]
 intro e
 obtain ⟨t,rfl⟩:=List.isPrefixOf_iff_prefix.1 e
 exact h rfl
theorem trimLeft_id {s:Bs} (h:s.head? ≠ some 32):Lib.trimLeftB s 32=s:=by
 cases s with
 | nil=>rfl
 | cons c r =>
  have hc:(c == 32)=false:=by simpa using h
  simp [Lib.trimLeftB,List.dropWhile,hc]
theorem trimRight_id {s:Bs} (h:s.getLast? ≠ some 32):Lib.trimRightB s 32=s:=by
 have:s.reverse.head? ≠ some 32:=by rwa [List.head?_reverse]
 have h2:=trimLeft_id this
 unfold Lib.trimLeftB at h2
 unfold Lib.trimRightB
 rw [h2,List.reverse_reverse]
theorem slashes_id {s:Bs} (h:(splitL 47 s).all partOk=true):slashes s=s:=by
 unfold slashes
 have:(splitL 47 s).mapIdx (slash1 (splitL 47 s).length)=splitL 47 s:=by
  apply List.ext_getElem?
  intro i
  rw [List.getElem?_mapIdx]
  cases hi:(splitL 47 s)[i]? with
  | none=>rfl
  | some p =>
   obtain ⟨_,h1,h2⟩:=parts_ok h (List.mem_of_getElem? hi)
   simp only [Option.map_some,slash1,trimLeft_id h1,ite_self,trimRight_id h2]
 rw [this,join_splitL]
theorem index_one_app {c:UInt8} {a:Bs} (h:c ∉ a) (r:Bs):Lib.index (a ++ c :: r) [c]=a.length:=by
 induction a with
 | nil=>exact index_one_hit c r
 | cons x a ih =>
  rw [List.mem_cons,not_or] at h
  rw [List.cons_append,index_one_miss (Ne.symm h.1),ih h.2,if_neg (by rw [beq_iff_eq];omega)]
  rw [List.length_cons]
  omega
theorem cut_app {c:UInt8} {a:Bs} (h:c ∉ a) (r:Bs):Lib.cut (a ++ c :: r) [c]=(a,r,true):=by
 unfold Lib.cut
 rw [index_one_app h,if_pos (by omega)]
 simp
theorem nms_fact:∀ n∈[1,2,3,4,5],spaceOf (nms.getD n [])=some n∧(nms.getD n []).all (fun c=>c != 58 && c != 32 && c != 95)=true∧(nms.getD n []).head?.isSome=true:=by decide +kernel
theorem pre_app {n:Nat} (hn:n∈[1,2,3,4,5]) (s:Bs):pre (nms.getD n [] ++ 58 :: s)=some (n,s):=by
 obtain ⟨h1,h2,_⟩:=nms_fact n hn
 have hno:∀ c∈nms.getD n [],c≠58∧c≠32∧c≠95:=by
  intro c hc
  have:=List.all_eq_true.1 h2 c hc
  simp only [Bool.and_eq_true,bne_iff_ne,ne_eq] at this
  exact ⟨this.1.1,this.1.2,this.2⟩
 have h58:58 ∉ nms.getD n []:=fun h=>(hno _ h).1 rfl
 have hl:(nms.getD n []).getLast? ≠ some 32:=fun e=>(hno 32 (List.mem_of_getLast? e)).2.1 rfl
 unfold pre
 rw [cut_app h58,index_one_app h58,if_pos (by omega),trimSuffix_id hl,h1]
 rfl
theorem parseP_fmt {sp:Int} {s:Bs} (h:valid sp s=true):parseP (fmt sp s)=(0,sp,s):=by
 obtain ⟨h1,h2,h3,h4,h5,h6,h7,h8,h9⟩:=valid_parts h
 have hhead:=head_ok h6
 have hlast:=last_ok fun p hp=>(parts_ok h6 hp).2.2
 have hup:upHead s=s:=by
  cases s with
  | nil=>rfl
  | cons c r =>
   unfold lowHead at h8
   have:¬ (97≤c∧c≤122):=by simpa using h8
   rw [upHead,if_neg this]
 have hends:∀ n:Int,n=sp→ends n s=(0,sp,s):=by
  rintro n rfl
  unfold ends
  rw [if_neg (by omega),if_pos h]
 unfold fmt
 rw [if_pos h]
 by_cases hs:sp=0
 ·rw [if_pos hs]
  have e1:Lib.replaceAll s [95] [32]=s:=replace_id (clean_no h5 (by decide))
  have e2:single s=s:=by
   unfold single
   rw [sing_id (fun _=>hhead) (fun e=>by simp at e) (fun i hi=>cleanB_dbl h5 hi),List.nil_append,trimSuffix_id hlast]
  have e3:colon s=s:=by
   unfold colon Lib.hasPrefix
   rw [if_neg]
   intro e
   obtain ⟨t,rfl⟩:=List.isPrefixOf_iff_prefix.1 e
   exact h7 rfl
  have e4:rest s=(0,s):=by
   unfold rest
   rw [h9 hs]
  unfold parseP
  rw [e1,e2,e3,e4]
  simp only
  rw [slashes_id h6,hup]
  exact hends _ (by simp [hs])
 ·rw [if_neg hs]
  obtain ⟨n,hn,rfl⟩:∃ n:Nat,n∈[1,2,3,4,5]∧sp=n:=by
   refine ⟨sp.toNat,?_,by omega⟩
   have:sp=1∨sp=2∨sp=3∨sp=4∨sp=5:=by omega
   rcases this with rfl | rfl | rfl | rfl | rfl <;> decide
  rw [Int.toNat_natCast]
  obtain ⟨g1,g2,g3⟩:=nms_fact n hn
  have hno:∀ c∈nms.getD n [],c≠58∧c≠32∧c≠95:=by
   intro c hc
   have:=List.all_eq_true.1 g2 c hc
   simp only [Bool.and_eq_true,bne_iff_ne,ne_eq] at this
   exact ⟨this.1.1,this.1.2,this.2⟩
  have hpre:=pre_app hn s
  generalize hN:nms.getD n []=N at g1 g2 g3 hno hpre
  obtain ⟨c0,N',rfl⟩:∃ c N',N=c :: N':=by
   cases N with
   | nil=>cases g3
   | cons c N'=>exact ⟨c,N',rfl⟩
  have e1:Lib.replaceAll (c0 :: N' ++ 58 :: s) [95] [32]=c0 :: N' ++ 58 :: s:=by
   refine replace_id fun hm=>?_
   rcases List.mem_append.1 hm with hm | hm
   ·exact (hno _ hm).2.2 rfl
   ·rcases List.mem_cons.1 hm with e | hm
    ·cases e
    ·exact clean_no h5 (by decide) hm
  have hsn:s≠[]:=by
   intro e
   rw [e] at h3
   simp at h3
  have hl2:(c0 :: N' ++ 58 :: s).getLast? ≠ some 32:=by
   have e:(58 :: s).getLast? = s.getLast? := by
    cases s with
    | nil=>exact absurd rfl hsn
    | cons x r=>rw [List.getLast?_cons_cons]
   rw [List.getLast?_append,e]
   cases hs:s.getLast? with
   | none=>exact absurd (List.getLast?_eq_none_iff.1 hs) hsn
   | some y =>
    rw [hs] at hlast
    simpa using hlast
  have e2:single (c0 :: N' ++ 58 :: s)=c0 :: N' ++ 58 :: s:=by
   unfold single
   rw [sing_id (fun _=>?_) (fun e=>by simp at e) (fun i hi=>?_),List.nil_append,trimSuffix_id hl2]
   ·intro e
    exact (hno c0 List.mem_cons_self).2.1 (by simpa using e)
   ·by_cases hi2:i<(c0 :: N').length
    ·rw [List.getElem?_append_left hi2] at hi
     exact absurd rfl (hno 32 (List.mem_of_getElem? hi)).2.1
    ·rw [List.getElem?_append_right (by omega)] at hi ⊢
     ·obtain ⟨j,hj⟩:∃ j,i - (c0 :: N').length=j:=⟨_,rfl⟩
      rw [show i+1 - (c0 :: N').length=j+1 from by omega]
      rw [hj] at hi
      cases j with
      | zero=>cases hi
      | succ j=>exact cleanB_dbl h5 hi
  have e3:colon (c0 :: N' ++ 58 :: s)=c0 :: N' ++ 58 :: s:=by
   unfold colon Lib.hasPrefix
   rw [if_neg]
   intro e
   obtain ⟨t,ht⟩:=List.isPrefixOf_iff_prefix.1 e
   have:(58:UInt8)=c0:=(List.cons.inj ht).1
   exact (hno c0 List.mem_cons_self).1 this.symm
  have e4:rest (c0 :: N' ++ 58 :: s)=(n,s):=by
   unfold rest
   rw [hpre]
   simp only
   rw [trimPrefix_id hhead]
  unfold parseP
  rw [e1,e2,e3,e4]
  simp only
  rw [slashes_id h6,hup]
  exact hends _ rfl
theorem ends_ok {n sp:Int} {s m:Bs} (h:ends n s=(0,sp,m)):valid sp m=true:=by
 unfold ends at h
 split at h
 ·cases h
 ·split at h
  ·rename_i hv
   simp only [Prod.mk.injEq,true_and] at h
   rw [← h.1,← h.2]
   exact hv
  ·cases h
def rdT (p:Bs→Int×Int×Bs) (w:Bs):Option (Int×Bs):=(rd none w).bind fun s=>if (p s).1=0∧fmt (p s).2.1 (p s).2.2=s then some (p s).2 else none
structure Reads (p:Bs→Int×Int×Bs):Prop where
 back:∀ {sp:Int} {s:Bs},valid sp s=true→p (fmt sp s)=(0,sp,s)
 ok:∀ {s m:Bs} {sp:Int},p s=(0,sp,m)→valid sp m=true
theorem rdT_iff {p:Bs→Int×Int×Bs} (hp:Reads p) {w:Bs} {sp:Int} {n:Bs}:rdT p w=some (sp,n)↔valid sp n=true∧wr (fmt sp n)=w:=by
 unfold rdT
 constructor
 ·intro h
  obtain ⟨s,h1,h2⟩:=Option.bind_eq_some_iff.1 h
  split at h2
  ·rename_i hc
   obtain ⟨hc1,hc2⟩:=hc
   have h3:=Option.some.inj h2
   have e:p s=(0,sp,n):=by
    rw [← hc1,← h3]
   rw [h3] at hc2
   exact ⟨hp.ok e,by rw [hc2];exact (rd_iff none).1 h1⟩
  ·cases h2
 ·rintro ⟨h1,h2⟩
  rw [(rd_iff none).2 h2]
  simp only [Option.bind_some]
  rw [hp.back h1]
  simp
theorem reads_prog:Reads parseP:=⟨parseP_fmt,ends_ok⟩
end Go.Sp
namespace Go.Sp
theorem digit_ofNat {i:Nat} (h:i<10):Lib.digitVal (UInt8.ofNat (48+i))=some i:=by
 have e:(UInt8.ofNat (48+i)).toNat=48+i:=by rw [UInt8.toNat_ofNat'];omega
 rw [Lib.digitVal,e,if_pos (by omega)]
 congr 1
 omega
theorem decFrom_app {b:UInt8} {d:Nat} (hd:Lib.digitVal b=some d):∀ (l:List UInt8) (acc n:Nat),Lib.decFrom acc l=some n→Lib.decFrom acc (l ++ [b])=some (n * 10+d)
 | [],acc,n,h=>by
  obtain rfl:acc=n:=Option.some.inj h
  rw [List.nil_append,Lib.decFrom,hd]
  rfl
 | c :: l,acc,n,h=>by
  rw [Lib.decFrom] at h
  rw [List.cons_append,Lib.decFrom]
  cases hc:Lib.digitVal c with
  | none=>rw [hc] at h;cases h
  | some e =>
   rw [hc] at h
   exact decFrom_app hd l _ n h
theorem decFrom_digits (u:Nat):Lib.decFrom 0 (Lib.decDigits u)=some u:=by
 induction u using Nat.strongRecOn with
 | _ u ih =>
  rw [Lib.decDigits]
  split
  ·rename_i h
   rw [Lib.decFrom,digit_ofNat h]
   simp [Lib.decFrom]
  ·rename_i h
   rw [decFrom_app (digit_ofNat (i:=u % 10) (by omega)) _ _ _ (ih (u / 10) (by omega))]
   congr 1
   omega
theorem digits_cons (u:Nat):∃ b r,Lib.decDigits u=b :: r∧b≠45∧b≠43:=by
 have h1:=Lib.decDigits_length u
 have h2:=Lib.nDigits_pos u
 cases h:Lib.decDigits u with
 | nil=>rw [h] at h1;simp at h1;omega
 | cons b r =>
  obtain ⟨d,hd⟩:=Lib.digit_of_decFrom _ _ _ (decFrom_digits u) 0 b (by rw [h];rfl)
  have:=Lib.digitVal_eq hd
  refine ⟨b,r,rfl,?_,?_⟩
  ·rintro rfl
   exact absurd this.1 (by decide)
  ·rintro rfl
   exact absurd this.1 (by decide)
theorem decNat_digits (u:Nat):Lib.decNat (Lib.decDigits u)=some u:=by
 obtain ⟨b,r,h,_⟩:=digits_cons u
 have:=decFrom_digits u
 rw [h] at this ⊢
 exact this
theorem atoi_itoa (n:Int):Lib.atoi (Lib.itoa n)=some n:=by
 unfold Lib.itoa
 split
 ·rw [Lib.atoi,if_pos (by decide),decNat_digits]
  simp only [Option.map_some]
  congr 1
  omega
 ·obtain ⟨b,r,h,h1,h2⟩:=digits_cons n.toNat
  have:=decNat_digits n.toNat
  rw [h] at this ⊢
  rw [Lib.atoi,if_neg (by simpa using h1),if_neg (by simpa using h2),this]
  simp only [Option.map_some]
  congr 1
  omega
theorem nDigits_le:∀ (k u:Nat),u<10 ^ (k+1)→Lib.nDigits u≤k+1
 | 0,u,h=>by rw [Lib.nDigits_small (by simpa using h)];exact Nat.le_refl _
 | k+1,u,h=>by
  by_cases hu:u<10
  ·rw [Lib.nDigits_small hu];omega
  ·rw [Lib.nDigits_big hu]
   have:=nDigits_le k (u / 10) (by rw [Nat.pow_succ] at h;omega)
   omega
theorem nDigits_iff (u:Nat):Lib.nDigits u≤9↔u<1000000000:=by
 constructor
 ·intro h
  have h1:=Lib.lt_pow_nDigits u
  have h2:10 ^ Lib.nDigits u≤10 ^ 9:=Nat.pow_le_pow_right (by decide) h
  omega
 ·intro h
  exact nDigits_le 8 u (by simpa using h)
def mag (w:Bs):Bs:=Lib.trimPrefix w [45]
theorem mag_neg (u:Nat):mag (45 :: Lib.decDigits u)=Lib.decDigits u:=by
 unfold mag Lib.trimPrefix Lib.hasPrefix
 rw [if_pos (by simp [List.isPrefixOf])]
 rfl
theorem mag_pos (u:Nat):mag (Lib.decDigits u)=Lib.decDigits u:=by
 obtain ⟨b,r,h,h1,_⟩:=digits_cons u
 unfold mag Lib.trimPrefix Lib.hasPrefix
 rw [h,if_neg (by simp [List.isPrefixOf,Ne.symm h1])]
theorem mag_itoa (v:Int):mag (Lib.itoa v)=Lib.decDigits v.natAbs:=by
 unfold Lib.itoa
 split
 ·exact mag_neg _
 ·rw [mag_pos]
  congr 1
  omega
theorem mag_len (v:Int):(mag (Lib.itoa v)).length≤9 ↔ -1000000000<v∧v<1000000000:=by
 rw [mag_itoa,Lib.decDigits_length,nDigits_iff]
 omega
theorem itoa_len {v:Int} (h : -1000000000<v∧v<1000000000):(Lib.itoa v).length≤10:=by
 have h1:=(mag_len v).2 h
 rw [mag_itoa] at h1
 unfold Lib.itoa
 split
 ·rw [List.length_cons];omega
 ·rw [show v.toNat=v.natAbs from by omega];omega
def numP (w:Bs):Option Int:=match Lib.atoiAll w with
 | .ok v=>if (mag w).length≤9∧Lib.itoa v=w then some v else none
 | _=>none
theorem numP_iff {w:Bs} {v:Int}:numP w=some v↔Lib.itoa v=w ∧ -1000000000<v∧v<1000000000:=by
 unfold numP
 constructor
 ·intro h
  split at h
  ·split at h
   ·rename_i hc
    obtain rfl:=Option.some.inj h
    obtain ⟨h1,rfl⟩:=hc
    exact ⟨rfl,(mag_len _).1 h1⟩
   ·cases h
  ·cases h
 ·rintro ⟨rfl,h⟩
  have:=itoa_len h
  rw [Lib.atoiAll_short _ (by omega),atoi_itoa]
  simp only [Lib.NumEnd.ofOption]
  rw [if_pos ⟨(mag_len v).2 h,trivial⟩]
def numR (w:Bs):Option Int:=if (mag w).length<1∨9<(mag w).length then none else match Lib.decFrom 0 (mag w) with
 | none=>none
 | some u=>if Lib.itoa (if mag w≠w then -(u:Int) else u)=w then some (if mag w≠w then -(u:Int) else u) else none
theorem numR_iff {w:Bs} {v:Int}:numR w=some v↔Lib.itoa v=w ∧ -1000000000<v∧v<1000000000:=by
 unfold numR
 constructor
 ·intro h
  split at h
  ·cases h
  ·rename_i hl
   split at h
   ·cases h
   ·rename_i u _
    obtain ⟨n,hn⟩:∃ n:Int,(if mag w≠w then -(u:Int) else u)=n:=⟨_,rfl⟩
    rw [hn] at h
    split at h
    ·rename_i hc
     rw [Option.some.inj h] at hc
     refine ⟨hc,(mag_len v).1 ?_⟩
     rw [hc]
     omega
    ·cases h
 ·rintro ⟨rfl,h⟩
  have h1:=(mag_len v).2 h
  have h2:1≤(mag (Lib.itoa v)).length:=by rw [mag_itoa,Lib.decDigits_length];exact Lib.nDigits_pos _
  rw [if_neg (by omega)]
  rw [mag_itoa,decFrom_digits]
  have e:(if Lib.decDigits v.natAbs≠Lib.itoa v then -((v.natAbs:Nat):Int) else ((v.natAbs:Nat):Int))=v:=by
   by_cases hv:v<0
   ·have hne:Lib.decDigits v.natAbs≠Lib.itoa v:=by
     unfold Lib.itoa
     rw [if_pos hv]
     intro e
     have:=congrArg List.length e
     simp at this
    rw [if_pos hne]
    omega
   ·have he:Lib.decDigits v.natAbs=Lib.itoa v:=by
     unfold Lib.itoa
     rw [if_neg hv]
     congr 1
     omega
    rw [if_neg (fun n=>n he)]
    omega
  simp only [e]
  rw [if_pos trivial]
theorem num_same (w:Bs):numP w=numR w:=by
 cases h:numP w with
 | some v=>exact (numR_iff.2 (numP_iff.1 h)).symm
 | none =>
  cases h':numR w with
  | none=>rfl
  | some v=>rw [numP_iff.2 (numR_iff.1 h')] at h;cases h
end Go.Sp
namespace Go.Sp
def und (c:UInt8):UInt8:=if c=95 then 32 else c
def blk:Bs→Bs→Bs
 | acc,[]=>acc
 | acc,c :: r=>blk (if und c=32∧(acc=[]∨acc.getLast? = some 32) then acc else acc ++ [und c]) r
def chop (s:Bs):Bs:=if s.getLast? = some 32 then s.dropLast else s
def blanks (s:Bs):Bs:=chop (blk [] s)
def cutR (s:Bs) (n:Nat):Bs:=if (s.drop n).head? = some 32 then (s.drop n).drop 1 else s.drop n
def prefR (s:Bs):Nat×Nat:=if Lib.index s [58]<0 then (0,0) else match spaceOf (chop (s.take (Lib.index s [58]).toNat)) with
 | some n=>(n,(Lib.index s [58]).toNat)
 | none=>(0,0)
def nameGo:Option UInt8→Bs→Bs
 | _,[]=>[]
 | p,c :: r=>if c=32∧(p=some 47∨r.head? = some 47) then nameGo (some c) r else c :: nameGo (some c) r
def colonR (s:Bs):Bs:=if s.head? = some 58 then cutR s 1 else s
def restR (s:Bs):Nat×Bs:=((prefR s).1,if 0<(prefR s).1 then cutR s ((prefR s).2+1) else s)
def parseR (s:Bs):Int×Int×Bs:=ends (restR (colonR (blanks s))).1 (upHead (nameGo none (restR (colonR (blanks s))).2))
theorem blk_id:∀ {r acc:Bs},(acc=[]→r.head? ≠ some 32)→(acc.getLast? = some 32→r.head? ≠ some 32)→(∀ i:Nat,r[i]? = some 32→r[i+1]? ≠ some 32)→95 ∉ r→blk acc r=acc ++ r
 | [],acc,_,_,_,_=>by simp [blk]
 | c :: r,acc,h1,h2,h3,h4=>by
  rw [List.mem_cons,not_or] at h4
  have hu:und c=c:=by unfold und;rw [if_neg (Ne.symm h4.1)]
  have hc:¬ (c=32∧(acc=[]∨acc.getLast? = some 32)):=by
   rintro ⟨rfl,e | e⟩
   ·exact h1 e rfl
   ·exact h2 e rfl
  rw [blk,hu,if_neg hc,blk_id (by simp) (fun e=>?_) (fun i hi=>by have:=h3 (i+1) (by simpa using hi);simpa using this) h4.2]
  ·simp
  ·rw [List.getLast?_concat] at e
   obtain rfl:c=32:=Option.some.inj e
   have:=h3 0 rfl
   simpa [List.head?_eq_getElem?] using this
theorem chop_id {s:Bs} (h:s.getLast? ≠ some 32):chop s=s:=by unfold chop;rw [if_neg h]
theorem chop_eq (s:Bs):chop s=Lib.trimSuffix s [32]:=by
 by_cases h:s.getLast? = some 32
 ·unfold chop Lib.trimSuffix Lib.hasSuffix
  have:[32].isSuffixOf s=true:=by
   rw [List.isSuffixOf_iff_suffix]
   obtain ⟨t,ht⟩:=List.getLast?_eq_some_iff.1 h
   exact ⟨t,ht.symm⟩
  rw [if_pos h,if_pos this,List.dropLast_eq_take]
  rfl
 ·rw [chop_id h,trimSuffix_id h]
theorem name_id:∀ {s:Bs} {p:Option UInt8},(p=some 47→s.head? ≠ some 32)→(∀ q∈splitL 47 s,q.getLast? ≠ some 32)→(∀ q∈(splitL 47 s).tail,q.head? ≠ some 32)→nameGo p s=s
 | [],_,_,_,_=>rfl
 | c :: r,p,h1,h2,h3=>by
  obtain ⟨q,qs,hq⟩:=splitL_cons 47 r
  by_cases hc:c=47
  ·subst hc
   rw [splitL_hit] at h2 h3
   have hn:¬ ((47:UInt8)=32∧(p=some 47∨r.head? = some 47)):=fun e=>absurd e.1 (by decide)
   rw [nameGo,if_neg hn,name_id (fun _ e=>?_) (fun x hx=>h2 x (List.mem_cons_of_mem _ hx)) (fun x hx=>h3 x ?_)]
   ·cases r with
    | nil=>cases e
    | cons y r' =>
     obtain rfl:y=32:=Option.some.inj e
     obtain ⟨z,zs,hz⟩:=splitL_cons 47 r'
     have:=h3 (32 :: z) (by
      rw [List.tail_cons,splitL_miss (by decide) hz]
      exact List.mem_cons_self)
     exact this rfl
   ·rw [List.tail_cons]
    exact List.mem_of_mem_tail hx
  ·rw [splitL_miss hc hq] at h2 h3
   have hn:¬ (c=32∧(p=some 47∨r.head? = some 47)):=by
    rintro ⟨rfl,e | e⟩
    ·exact h1 e rfl
    ·cases r with
     | nil=>cases e
     | cons y r' =>
      obtain rfl:y=47:=Option.some.inj e
      rw [splitL_hit] at hq
      obtain ⟨rfl,rfl⟩:=List.cons.inj hq
      exact h2 [32] List.mem_cons_self rfl
   rw [nameGo,if_neg hn,name_id (fun e=>?_) (fun x hx=>?_) (fun x hx=>?_)]
   ·exact absurd (Option.some.inj e) hc
   ·rw [hq] at hx
    rcases List.mem_cons.1 hx with rfl | hx
    ·have:=h2 (c :: x) List.mem_cons_self
     cases x with
     | nil=>simp
     | cons y ys=>rwa [List.getLast?_cons_cons] at this
    ·exact h2 x (List.mem_cons_of_mem _ hx)
   ·rw [hq] at hx
    exact h3 x hx
theorem head_part {s:Bs} (h:(splitL 47 s).all partOk=true):nameGo none s=s :=
 name_id (fun e=>by cases e) (fun q hq=>(parts_ok h hq).2.2) fun q hq=>(parts_ok h (List.mem_of_mem_tail hq)).2.1
theorem prefR_none {s:Bs} (h:pre s=none):(prefR s).1=0:=by
 unfold pre at h
 unfold prefR
 split
 ·rfl
 ·rename_i h0
  rw [if_pos (by omega)] at h
  unfold Lib.cut at h
  rw [if_pos (by omega)] at h
  rw [chop_eq]
  cases hs:spaceOf (Lib.trimSuffix (s.take (Lib.index s [58]).toNat) [32]) with
  | none=>rfl
  | some n=>rw [hs] at h;cases h
theorem prefR_app {n:Nat} (hn:n∈[1,2,3,4,5]) (s:Bs):prefR (nms.getD n [] ++ 58 :: s)=(n,(nms.getD n []).length):=by
 obtain ⟨h1,h2,_⟩:=nms_fact n hn
 have hno:∀ c∈nms.getD n [],c≠58∧c≠32∧c≠95:=by
  intro c hc
  have:=List.all_eq_true.1 h2 c hc
  simp only [Bool.and_eq_true,bne_iff_ne,ne_eq] at this
  exact ⟨this.1.1,this.1.2,this.2⟩
 have h58:58 ∉ nms.getD n []:=fun h=>(hno _ h).1 rfl
 have hl:(nms.getD n []).getLast? ≠ some 32:=fun e=>(hno 32 (List.mem_of_getLast? e)).2.1 rfl
 unfold prefR
 rw [index_one_app h58,if_neg (by omega),Int.toNat_natCast,List.take_left,chop_id hl,h1]
theorem parseR_fmt {sp:Int} {s:Bs} (h:valid sp s=true):parseR (fmt sp s)=(0,sp,s):=by
 obtain ⟨h1,h2,h3,h4,h5,h6,h7,h8,h9⟩:=valid_parts h
 have hhead:=head_ok h6
 have hlast:=last_ok fun p hp=>(parts_ok h6 hp).2.2
 have hup:upHead s=s:=by
  cases s with
  | nil=>rfl
  | cons c r =>
   unfold lowHead at h8
   have:¬ (97≤c∧c≤122):=by simpa using h8
   rw [upHead,if_neg this]
 have hends:∀ n:Int,n=sp→ends n s=(0,sp,s):=by
  rintro n rfl
  unfold ends
  rw [if_neg (by omega),if_pos h]
 unfold fmt
 rw [if_pos h]
 by_cases hs:sp=0
 ·rw [if_pos hs]
  have e2:blanks s=s:=by
   unfold blanks
   rw [blk_id (fun _=>hhead) (fun e=>by simp at e) (fun i hi=>cleanB_dbl h5 hi) (clean_no h5 (by decide)),List.nil_append,chop_id hlast]
  have e3:colonR s=s:=by unfold colonR;rw [if_neg h7]
  have e4:restR s=(0,s):=by
   unfold restR
   rw [prefR_none (h9 hs)]
   rfl
  unfold parseR
  rw [e2,e3,e4]
  simp only
  rw [head_part h6,hup]
  exact hends _ (by simp [hs])
 ·rw [if_neg hs]
  obtain ⟨n,hn,rfl⟩:∃ n:Nat,n∈[1,2,3,4,5]∧sp=n:=by
   refine ⟨sp.toNat,?_,by omega⟩
   have:sp=1∨sp=2∨sp=3∨sp=4∨sp=5:=by omega
   rcases this with rfl | rfl | rfl | rfl | rfl <;> decide
  rw [Int.toNat_natCast]
  obtain ⟨g1,g2,g3⟩:=nms_fact n hn
  have hno:∀ c∈nms.getD n [],c≠58∧c≠32∧c≠95:=by
   intro c hc
   have:=List.all_eq_true.1 g2 c hc
   simp only [Bool.and_eq_true,bne_iff_ne,ne_eq] at this
   exact ⟨this.1.1,this.1.2,this.2⟩
  have hpre:=prefR_app hn s
  have hn0:0<n:=by
   rcases List.mem_cons.1 hn with rfl | hn
   ·decide
   ·simp at hn
    omega
  generalize hN:nms.getD n []=N at g1 g2 g3 hno hpre
  obtain ⟨c0,N',rfl⟩:∃ c N',N=c :: N':=by
   cases N with
   | nil=>cases g3
   | cons c N'=>exact ⟨c,N',rfl⟩
  have hsn:s≠[]:=by
   intro e
   rw [e] at h3
   simp at h3
  have hl2:(c0 :: N' ++ 58 :: s).getLast? ≠ some 32:=by
   have e:(58 :: s).getLast? = s.getLast? := by
    cases s with
    | nil=>exact absurd rfl hsn
    | cons x r=>rw [List.getLast?_cons_cons]
   rw [List.getLast?_append,e]
   cases hs:s.getLast? with
   | none=>exact absurd (List.getLast?_eq_none_iff.1 hs) hsn
   | some y =>
    rw [hs] at hlast
    simpa using hlast
  have e2:blanks (c0 :: N' ++ 58 :: s)=c0 :: N' ++ 58 :: s:=by
   unfold blanks
   rw [blk_id (fun _=>?_) (fun e=>by simp at e) (fun i hi=>?_) (fun hm=>?_),List.nil_append,chop_id hl2]
   ·intro e
    exact (hno c0 List.mem_cons_self).2.1 (by simpa using e)
   ·by_cases hi2:i<(c0 :: N').length
    ·rw [List.getElem?_append_left hi2] at hi
     exact absurd rfl (hno 32 (List.mem_of_getElem? hi)).2.1
    ·rw [List.getElem?_append_right (by omega)] at hi ⊢
     ·obtain ⟨j,hj⟩:∃ j,i - (c0 :: N').length=j:=⟨_,rfl⟩
      rw [show i+1 - (c0 :: N').length=j+1 from by omega]
      rw [hj] at hi
      cases j with
      | zero=>cases hi
      | succ j=>exact cleanB_dbl h5 hi
   ·rcases List.mem_append.1 hm with hm | hm
    ·exact (hno _ hm).2.2 rfl
    ·rcases List.mem_cons.1 hm with e | hm
     ·cases e
     ·exact clean_no h5 (by decide) hm
  have e3:colonR (c0 :: N' ++ 58 :: s)=c0 :: N' ++ 58 :: s:=by
   unfold colonR
   rw [if_neg]
   intro e
   exact (hno c0 List.mem_cons_self).1 (by simpa using e)
  have e4:restR (c0 :: N' ++ 58 :: s)=(n,s):=by
   unfold restR
   rw [hpre]
   simp only
   rw [if_pos hn0]
   have hd:(c0 :: N' ++ 58 :: s).drop ((c0 :: N').length+1)=s:=by
    rw [← List.drop_drop,List.drop_left]
    rfl
   unfold cutR
   rw [hd,if_neg hhead]
  unfold parseR
  rw [e2,e3,e4]
  simp only
  rw [head_part h6,hup]
  exact hends _ rfl
theorem reads_ref:Reads parseR:=⟨parseR_fmt,ends_ok⟩
theorem rdT_same (w:Bs):rdT parseP w=rdT parseR w:=by
 cases h:rdT parseP w with
 | some q=>exact ((rdT_iff reads_ref).2 ((rdT_iff reads_prog).1 h)).symm
 | none =>
  cases h':rdT parseR w with
  | none=>rfl
  | some q=>rw [(rdT_iff reads_prog).2 ((rdT_iff reads_ref).1 h')] at h;cases h
end Go.Sp
namespace Go.Sp
structure Rev where
 number:Int
 user:Bs
 note:Bs
 text:Bs
 minute:Int
 seq:Int
instance:DecidableEq Rev:=fun a b=>decidable_of_iff (a.number=b.number∧a.user=b.user∧a.note=b.note∧a.text=b.text∧a.minute=b.minute∧a.seq=b.seq) (by cases a;cases b;simp)
structure Ev where
 kind:Int
 user:Bs
 note:Bs
 tSp:Int
 tN:Bs
 oSp:Int
 oN:Bs
 text:Bs
 base:Int
 n:Int
 hist:List Rev
instance:DecidableEq Ev:=fun a b=>decidable_of_iff (a.kind=b.kind∧a.user=b.user∧a.note=b.note∧a.tSp=b.tSp∧a.tN=b.tN∧a.oSp=b.oSp∧a.oN=b.oN∧a.text=b.text∧a.base=b.base∧a.n=b.n∧a.hist=b.hist) (by cases a;cases b;simp)
def ev0 (k:Int):Ev:=⟨k,[],[],0,[],0,[],[],0,0,[]⟩
inductive Fld where
 | user | title | to | text | note | base | num | many
instance:DecidableEq Fld:=fun a b=>by
 cases a <;> cases b <;> first
  | exact isTrue rfl
  | exact isFalse (fun h=>by cases h)
structure Form where
 verb:Bs
 kinds:List Fld
 many:Bool
 kind:Int
def forms:List Form:=[
 ⟨[101,100,105,116],[.user,.title,.base,.text,.note],false,1⟩,
 ⟨[109,111,118,101],[.user,.title,.to,.num],false,2⟩,
 ⟨[100,101,108,101,116,101],[.user,.title],false,3⟩,
 ⟨[114,101,115,116,111,114,101],[.user,.title],false,4⟩,
 ⟨[105,109,112,111,114,116],[.user,.title],true,5⟩,
 ⟨[97,99,99,101,112,116],[.user,.num],false,6⟩,
 ⟨[114,101,106,101,99,116],[.user,.num],false,7⟩,
 ⟨[119,97,116,99,104],[.user,.title],false,8⟩,
 ⟨[117,110,119,97,116,99,104],[.user,.title],false,9⟩,
 ⟨[116,105,99,107],[.num],false,10⟩,
 ⟨[102,108,117,115,104],[],false,11⟩,
 ⟨[114,101,97,100],[.user,.title,.num],false,12⟩,
 ⟨[108,105,110,107,115],[.user,.title],false,13⟩,
 ⟨[109,101,109,98,101,114,115],[.user,.title],false,14⟩,
 ⟨[119,97,110,116,101,100],[.user],false,15⟩,
 ⟨[115,101,97,114,99,104],[.user,.text],false,16⟩,
 ⟨[102,101,101,100],[.user,.num],false,17⟩,
 ⟨[100,105,102,102],[.user,.title,.base,.num],false,18⟩,
 ⟨[119,111,114,107],[.num],false,19⟩,
 ⟨[107,105,108,108],[.num],false,20⟩,
 ⟨[99,114,97,115,104],[.base,.num],false,21⟩]
def fillW (e:Ev) (f:Fld) (w:Bs):Option Ev:=match f with
 | .user=>(rd none w).map fun s=>{ e with user:=s }
 | .text=>(rd none w).map fun s=>{ e with text:=s }
 | .note=>(rd none w).map fun s=>{ e with note:=s }
 | .title=>(rdT parseR w).map fun t=>{ e with tSp:=t.1,tN:=t.2 }
 | .to=>(rdT parseR w).map fun t=>{ e with oSp:=t.1,oN:=t.2 }
 | .base=>(numP w).map fun v=>{ e with base:=v }
 | .num=>(numP w).map fun v=>{ e with n:=v }
 | .many=>none
def revs (u:Bs):Nat→List Bs→Option (List Rev)
 | _,[]=>some []
 | i,w :: ws=>(rd none w).bind fun s=>(revs u (i+1) ws).map (⟨(i:Int)+1,u,[],s,0,0⟩ :: ·)
def fills:Ev→List Fld→List Bs→Option (Ev×List Bs)
 | e,[],ws=>some (e,ws)
 | _,_ :: _,[]=>none
 | e,f :: fs,w :: ws=>(fillW e f w).bind fun e=>fills e fs ws
def closes (m:Bool) (p:Ev×List Bs):Option Ev :=
 if m then (if p.2=[] then none else (revs p.1.user 0 p.2).map fun h=>{ p.1 with hist:=h }) else if p.2=[] then some p.1 else none
def byForm (f:Form) (ws:List Bs):Option Ev:=(fills (ev0 f.kind) f.kinds ws).bind (closes f.many)
def lineS (l:Bs):Option Ev:=match splitL 32 l with
 | []=>none
 | v :: ws=>(forms.find? fun f=>f.verb == v).bind fun f=>byForm f ws
def linesS:Nat→List Bs→List Ev×Int×Int
 | _,[]=>([],0,0)
 | i,l :: ls=>if l=[]∨l.head? = some 35 then linesS (i+1) ls else match lineS l with
  | none=>([],(i:Int)+1,1)
  | some e=>match linesS (i+1) ls with
   | (es,_,0)=>(e :: es,0,0)
   | r=>([],r.2)
def bodyOf (s:Bs):List Bs:=splitL 10 (Lib.trimSuffix s [10])
def parseS (s:Bs):List Ev×Int×Int:=if 32768<s.length∨400<(bodyOf s).length then ([],0,3) else linesS 0 (bodyOf s)
def wordF (e:Ev):Fld→Bs
 | .user=>wr e.user
 | .text=>wr e.text
 | .note=>wr e.note
 | .title=>wr (fmt e.tSp e.tN)
 | .to=>wr (fmt e.oSp e.oN)
 | .base=>Lib.itoa e.base
 | .num=>Lib.itoa e.n
 | .many=>[]
def wordsF (f:Form) (e:Ev):List Bs:=f.verb :: (f.kinds.map (wordF e) ++ if f.many then e.hist.map fun r=>wr r.text else [])
def textF (f:Form) (e:Ev):Bs:=Lib.join (wordsF f e) [32]
def formatS (e:Ev):Option Bs:=(forms.find? fun f=>f.kind == e.kind).bind fun f=>if lineS (textF f e)=some e∧(textF f e).length≤32768 then some (textF f e) else none
end Go.Sp
namespace Go.Sp
theorem fills_rest:∀ {fs:List Fld} {e:Ev} {ws:List Bs} {e':Ev} {r:List Bs},fills e fs ws=some (e',r)→r=ws.drop fs.length∧fs.length≤ws.length
 | [],e,ws,e',r,h=>by
  obtain ⟨_,rfl⟩:=Prod.mk.inj (Option.some.inj (show some (e,ws)=some (e',r) by cases ws <;> exact h))
  exact ⟨rfl,Nat.zero_le _⟩
 | f :: fs,e,[],e',r,h=>by cases h
 | f :: fs,e,w :: ws,e',r,h=>by
  obtain ⟨e1,_,h2⟩:=Option.bind_eq_some_iff.1 (show (fillW e f w).bind (fun e=>fills e fs ws)=some (e',r) from h)
  obtain ⟨h3,h4⟩:=fills_rest h2
  exact ⟨h3,by simpa using h4⟩
def countOk (f:Form) (ws:List Bs):Bool:=decide (f.kinds.length≤ws.length) && (f.many || decide (ws.length≤f.kinds.length))
theorem byForm_count {f:Form} {ws:List Bs} (h:countOk f ws=false):byForm f ws=none:=by
 unfold byForm
 cases hf:fills (ev0 f.kind) f.kinds ws with
 | none=>rfl
 | some q =>
  obtain ⟨h1,h2⟩:=fills_rest (e':=q.1) (r:=q.2) hf
  unfold countOk at h
  have hm:f.many=false∧f.kinds.length<ws.length:=by
   cases hm:f.many with
   | true=>rw [hm] at h;simp [h2] at h
   | false=>rw [hm] at h;simp [h2] at h;exact ⟨rfl,h⟩
  simp only [Option.bind_some,closes,hm.1,Bool.false_eq_true,if_false]
  rw [if_neg]
  intro e
  rw [h1,List.drop_eq_nil_iff] at e
  omega
def isNote (l:Bs):Prop:=l=[]∨l.head? = some 35
instance (l:Bs):Decidable (isNote l):=inferInstanceAs (Decidable (_∨_))
abbrev Res:=List Ev×Int×Int
def joinR (acc:List Ev) (r:Res):Res:=if r.2.2=0 then (acc ++ r.1,0,0) else ([],r.2)
theorem linesS_note {l:Bs} (h:isNote l) (i:Nat) (ls:List Bs):linesS i (l :: ls)=linesS (i+1) ls:=by rw [linesS,if_pos (show l=[]∨l.head? = some 35 from h)]
theorem linesS_bad {l:Bs} (h:¬ isNote l) (h2:lineS l=none) (i:Nat) (ls:List Bs):linesS i (l :: ls)=([],(i:Int)+1,1):=by rw [linesS,if_neg (show ¬ (l=[]∨l.head? = some 35) from h),h2]
theorem linesS_good {l:Bs} (h:¬ isNote l) {e:Ev} (h2:lineS l=some e) (i:Nat) (ls:List Bs):linesS i (l :: ls)=joinR [e] (linesS (i+1) ls):=by
 rw [linesS,if_neg (show ¬ (l=[]∨l.head? = some 35) from h),h2]
 simp only
 obtain ⟨es,n,k⟩:=linesS (i+1) ls
 unfold joinR
 by_cases hk:k=0
 ·subst hk;rfl
 ·rw [if_neg hk]
  split
  ·rename_i heq
   simp only [Prod.mk.injEq] at heq
   exact absurd heq.2.2 hk
  ·rfl
theorem joinR_joinR (a b:List Ev) (r:Res):joinR a (joinR b r)=joinR (a ++ b) r:=by
 unfold joinR
 by_cases h:r.2.2=0
 ·rw [if_pos h,if_pos rfl,if_pos h,List.append_assoc]
 ·rw [if_neg h,if_neg h,if_neg h]
theorem linesS_form:∀ (ls:List Bs) (i:Nat),(∃ es,linesS i ls=(es,0,0))∨∃ n,linesS i ls=([],n,1)
 | [],i=>.inl ⟨[],rfl⟩
 | l :: ls,i=>by
  by_cases h:isNote l
  ·rw [linesS_note h];exact linesS_form ls (i+1)
  ·cases h2:lineS l with
   | none=>exact .inr ⟨_,linesS_bad h h2 i ls⟩
   | some e =>
    rw [linesS_good h h2]
    rcases linesS_form ls (i+1) with ⟨es,h3⟩ | ⟨n,h3⟩
    ·exact .inl ⟨e :: es,by rw [h3];rfl⟩
    ·exact .inr ⟨n,by rw [h3];rfl⟩
theorem joinR_nil {ls:List Bs} {i:Nat}:joinR [] (linesS i ls)=linesS i ls:=by
 rcases linesS_form ls i with ⟨es,h⟩ | ⟨n,h⟩ <;> rw [h] <;> rfl
theorem linesS_app {as bs:List Bs}:∀ {i:Nat} {es:List Ev},linesS i as=(es,0,0)→linesS i (as ++ bs)=joinR es (linesS (i+as.length) bs):=by
 induction as with
 | nil =>
  intro i es h
  obtain rfl:[]=es:=(Prod.mk.inj h).1
  rw [joinR_nil]
  rfl
 | cons l as ih =>
  intro i es h
  rw [List.length_cons,show i+(as.length+1)=i+1+as.length from by omega,List.cons_append]
  by_cases hn:isNote l
  ·rw [linesS_note hn] at h ⊢
   exact ih h
  ·cases h2:lineS l with
   | none=>rw [linesS_bad hn h2] at h;simp only [Prod.mk.injEq] at h;omega
   | some e =>
    rw [linesS_good hn h2] at h ⊢
    rcases linesS_form as (i+1) with ⟨es',h3⟩ | ⟨n,h3⟩
    ·rw [h3] at h
     obtain rfl:e :: es'=es:=(Prod.mk.inj (show ((e :: es',0,0):Res)=(es,0,0) from h)).1
     rw [ih h3,joinR_joinR]
     rfl
    ·rw [h3] at h
     simp [joinR] at h
def lns (ls:List Bs):Bs:=ls.flatMap (· ++ [10])
theorem lns_cons (l:Bs) (ls:List Bs):lns (l :: ls)=l ++ 10 :: lns ls:=by simp [lns]
theorem lns_app (as bs:List Bs):lns (as ++ bs)=lns as ++ lns bs:=by simp [lns]
theorem splitL_lns {ls:List Bs} (h:∀ l∈ls,10 ∉ l) (r:Bs):splitL 10 (lns ls ++ r)=ls ++ splitL 10 r:=by
 induction ls with
 | nil=>rfl
 | cons l ls ih =>
  rw [lns_cons,List.append_assoc,List.cons_append,splitL_app (h l List.mem_cons_self),ih fun x hx=>h x (List.mem_cons_of_mem _ hx)]
  rfl
theorem trim_end (s:Bs):Lib.trimSuffix (s ++ [10]) [10]=s:=by
 unfold Lib.trimSuffix Lib.hasSuffix
 rw [if_pos (by rw [List.isSuffixOf_iff_suffix];exact List.suffix_append s [10])]
 simp
theorem trim_none {s:Bs} (h:s.getLast? ≠ some 10):Lib.trimSuffix s [10]=s:=by
 unfold Lib.trimSuffix Lib.hasSuffix
 rw [if_neg]
 intro e
 obtain ⟨t,rfl⟩:=List.isSuffixOf_iff_suffix.1 e
 exact h (by simp)
theorem body_lns {ls:List Bs} (h:∀ l∈ls,10 ∉ l) {l:Bs} (hl:10 ∉ l):bodyOf (lns (ls ++ [l]))=ls ++ [l]:=by
 unfold bodyOf
 rw [lns_app,show lns [l]=l ++ [10] from by simp [lns],← List.append_assoc,trim_end,splitL_lns h,splitL_no hl]
theorem body_one {l:Bs} (hl:10 ∉ l):bodyOf l=[l]:=by
 unfold bodyOf
 rw [trim_none (fun e=>hl (List.mem_of_getLast? e)),splitL_no hl]
theorem itoa_bytes {v:Int} {x:UInt8} (h:x∈Lib.itoa v):x≠32∧x≠10:=by
 have hd:∀ u,x∈Lib.decDigits u→x≠32∧x≠10:=by
  intro u hx
  obtain ⟨k,hk⟩:=List.getElem?_of_mem hx
  obtain ⟨d,hd⟩:=Lib.digit_of_decFrom _ _ _ (decFrom_digits u) k x hk
  have:=Lib.digitVal_eq hd
  constructor <;> (rintro rfl;exact absurd this.1 (by decide))
 unfold Lib.itoa at h
 split at h
 ·rcases List.mem_cons.1 h with rfl | h
  ·decide
  ·exact hd _ h
 ·exact hd _ h
theorem verb_bytes:∀ f∈forms,f.verb≠[]∧f.verb.head? ≠ some 35∧f.verb.all (fun c=>c != 32 && c != 10)=true∧f.kinds.all (fun k=>k != .many)=true:=by decide +kernel
theorem wordF_no {e:Ev} {f:Fld} (hf:f≠.many) {x:UInt8} (h:x∈wordF e f):x≠32∧x≠10:=by
 cases f with
 | many=>exact absurd rfl hf
 | base=>exact itoa_bytes h
 | num=>exact itoa_bytes h
 | _=>exact wr_no h
theorem words_no {f:Form} (hf:f∈forms) {e:Ev} {w:Bs} (hw:w∈wordsF f e) {x:UInt8} (h:x∈w):x≠32∧x≠10:=by
 obtain ⟨_,_,h3,h4⟩:=verb_bytes f hf
 unfold wordsF at hw
 rcases List.mem_cons.1 hw with rfl | hw
 ·have:=List.all_eq_true.1 h3 x h
  simpa using this
 ·rcases List.mem_append.1 hw with hw | hw
  ·obtain ⟨k,hk,rfl⟩:=List.mem_map.1 hw
   have:=List.all_eq_true.1 h4 k hk
   exact wordF_no (by simpa using this) h
  ·split at hw
   ·obtain ⟨r,_,rfl⟩:=List.mem_map.1 hw
    exact wr_no h
   ·cases hw
theorem text_split {f:Form} (hf:f∈forms) (e:Ev):splitL 32 (textF f e)=wordsF f e :=
 splitL_join (by simp [wordsF]) fun w hw h=>(words_no hf hw h).1 rfl
theorem mem_join {c:UInt8} {x:UInt8}:∀ {ps:List Bs},x∈Lib.join ps [c]→x=c∨∃ p∈ps,x∈p
 | [],h=>by cases h
 | [p],h=>by rw [Lib.join_one] at h;exact .inr ⟨p,by simp,h⟩
 | p :: q :: r,h=>by
  have e:Lib.join (p :: q :: r) [c]=p ++ c :: Lib.join (q :: r) [c]:=by
   rw [Lib.join_cons,Lib.join_cons]
   simp [Lib.joinTail]
  rw [e] at h
  rcases List.mem_append.1 h with h | h
  ·exact .inr ⟨p,List.mem_cons_self,h⟩
  ·rcases List.mem_cons.1 h with h | h
   ·exact .inl h
   ·rcases mem_join h with h | ⟨y,hy,h⟩
    ·exact .inl h
    ·exact .inr ⟨y,List.mem_cons_of_mem _ hy,h⟩
theorem text_no {f:Form} (hf:f∈forms) (e:Ev):10 ∉ textF f e:=by
 intro h
 rcases mem_join h with h | ⟨w,hw,h⟩
 ·cases h
 ·exact (words_no hf hw h).2 rfl
theorem text_note {f:Form} (hf:f∈forms) (e:Ev):¬ isNote (textF f e):=by
 obtain ⟨h1,h2,_⟩:=verb_bytes f hf
 unfold textF wordsF
 rw [Lib.join_cons]
 cases hv:f.verb with
 | nil=>exact absurd hv h1
 | cons c r =>
  rw [hv] at h2
  rintro (h | h)
  ·simp at h
  ·exact h2 (by simpa using h)
theorem formatS_some {e:Ev} {s:Bs} (h:formatS e=some s):∃ f∈forms,s=textF f e∧lineS s=some e∧s.length≤32768:=by
 unfold formatS at h
 obtain ⟨f,hf,h2⟩:=Option.bind_eq_some_iff.1 h
 split at h2
 ·rename_i hc
  obtain rfl:=Option.some.inj h2
  exact ⟨f,List.mem_of_find?_eq_some hf,rfl,hc.1,hc.2⟩
 ·cases h2
theorem parse_line {e:Ev} {s:Bs} (h:formatS e=some s):parseS s=([e],0,0)∧(s.length<32768→parseS (s ++ [10])=([e],0,0)):=by
 obtain ⟨f,hf,rfl,h2,h3⟩:=formatS_some h
 have hl:linesS 0 [textF f e]=([e],0,0):=by
  rw [linesS_good (text_note hf e) h2]
  rfl
 constructor
 ·unfold parseS
  rw [body_one (text_no hf e),if_neg (by simp;omega),hl]
 ·intro h4
  unfold parseS
  have:bodyOf (textF f e ++ [10])=[textF f e]:=by
   have:=body_lns (ls:=[]) (l:=textF f e) (by simp) (text_no hf e)
   simpa [lns] using this
  rw [this,if_neg (by simp;omega),hl]
end Go.Sp
namespace Go.Sp
def setF (e x:Ev):Fld→Ev
 | .user=>{ x with user:=e.user }
 | .text=>{ x with text:=e.text }
 | .note=>{ x with note:=e.note }
 | .title=>{ x with tSp:=e.tSp,tN:=e.tN }
 | .to=>{ x with oSp:=e.oSp,oN:=e.oN }
 | .base=>{ x with base:=e.base }
 | .num=>{ x with n:=e.n }
 | .many=>x
def fieldOk (e:Ev):Fld→Prop
 | .title=>valid e.tSp e.tN=true
 | .to=>valid e.oSp e.oN=true
 | .base => -1000000000<e.base∧e.base<1000000000
 | .num => -1000000000<e.n∧e.n<1000000000
 | .many=>False
 | _=>True
theorem fillW_word {e:Ev} {f:Fld} (h:fieldOk e f) (x:Ev):fillW x f (wordF e f)=some (setF e x f):=by
 cases f with
 | many=>exact h.elim
 | user=>simp [fillW,wordF,setF,(rd_iff none).2 rfl]
 | text=>simp [fillW,wordF,setF,(rd_iff none).2 rfl]
 | note=>simp [fillW,wordF,setF,(rd_iff none).2 rfl]
 | title=>simp [fillW,wordF,setF,(rdT_iff reads_ref).2 ⟨h,rfl⟩]
 | to=>simp [fillW,wordF,setF,(rdT_iff reads_ref).2 ⟨h,rfl⟩]
 | base=>simp [fillW,wordF,setF,numP_iff.2 ⟨rfl,h⟩]
 | num=>simp [fillW,wordF,setF,numP_iff.2 ⟨rfl,h⟩]
theorem fills_words {e:Ev}:∀ {fs:List Fld},(∀ f∈fs,fieldOk e f)→∀ (x:Ev) (r:List Bs),fills x fs (fs.map (wordF e) ++ r)=some (fs.foldl (setF e) x,r)
 | [],_,x,r=>by cases r <;> rfl
 | f :: fs,h,x,r=>by
  rw [List.map_cons,List.cons_append,fills,fillW_word (h f List.mem_cons_self)]
  exact fills_words (fun g hg=>h g (List.mem_cons_of_mem _ hg)) _ r
theorem revs_words {u:Bs}:∀ {rs:List Rev} {i:Nat},(∀ (k:Nat) r,rs[k]? = some r→r=⟨((i+k:Nat):Int)+1,u,[],r.text,0,0⟩)→revs u i (rs.map fun r=>wr r.text)=some rs
 | [],_,_=>rfl
 | r :: rs,i,h=>by
  have h0:=h 0 r rfl
  have ih:=revs_words (u:=u) (rs:=rs) (i:=i+1) fun k x hx=>by
   have:=h (k+1) x (by simpa using hx)
   rwa [show i+(k+1)=i+1+k from by omega] at this
  rw [List.map_cons,revs,(rd_iff none).2 rfl]
  simp only [Option.bind_some]
  rw [ih]
  simp only [Option.map_some]
  rw [Nat.add_zero] at h0
  rw [← h0]
theorem find_verb:∀ f∈forms,∀ v:Bs,v=f.verb→∃ g,forms.find? (fun f=>f.verb == v)=some g∧g.kinds=f.kinds∧g.many=f.many∧g.kind=f.kind:=by
 intro f hf v hv
 subst hv
 simp only [forms,List.mem_cons,List.not_mem_nil,or_false] at hf
 rcases hf with rfl | rfl | rfl | rfl | rfl | rfl | rfl | rfl | rfl | rfl | rfl | rfl | rfl | rfl | rfl | rfl | rfl | rfl | rfl | rfl | rfl <;> exact ⟨_,rfl,rfl,rfl,rfl⟩
structure CanWrite (f:Form) (e:Ev):Prop where
 mem:f∈forms
 kind:e.kind=f.kind
 ok:∀ k∈f.kinds,fieldOk e k
 rest:f.kinds.foldl (setF e) (ev0 f.kind)={ e with hist:=[] }
 one:f.many=false→e.hist=[]
 many:f.many=true→e.hist≠[]∧∀ (k:Nat) r,e.hist[k]? = some r→r=⟨(k:Int)+1,e.user,[],r.text,0,0⟩
theorem line_word {f:Form} {e:Ev} (h:CanWrite f e):lineS (textF f e)=some e:=by
 unfold lineS
 rw [text_split h.mem]
 simp only [wordsF]
 obtain ⟨g,h1,h2,h3,h4⟩:=find_verb f h.mem f.verb rfl
 rw [h1]
 simp only [Option.bind_some,byForm,h2,h3,h4]
 rw [fills_words h.ok]
 simp only [Option.bind_some]
 rw [h.rest]
 unfold closes
 cases hm:f.many with
 | false =>
  simp only [Bool.false_eq_true,if_false,if_true]
  rw [← h.one hm]
 | true =>
  obtain ⟨n1,n2⟩:=h.many hm
  simp only [if_true]
  rw [if_neg (by simpa using n1)]
  rw [revs_words (u:=e.user) (i:=0) fun k r hr=>by rw [Nat.zero_add];exact n2 k r hr]
  rfl
theorem find_kind:∀ f∈forms,∀ k:Int,k=f.kind→forms.find? (fun f=>f.kind == k)=some f:=by
 intro f hf k hk
 subst hk
 simp only [forms,List.mem_cons,List.not_mem_nil,or_false] at hf
 rcases hf with rfl | rfl | rfl | rfl | rfl | rfl | rfl | rfl | rfl | rfl | rfl | rfl | rfl | rfl | rfl | rfl | rfl | rfl | rfl | rfl | rfl <;> rfl
theorem format_can {f:Form} {e:Ev} (h:CanWrite f e) (hl:(textF f e).length≤32768):formatS e=some (textF f e):=by
 unfold formatS
 rw [find_kind f h.mem e.kind h.kind]
 simp only [Option.bind_some]
 rw [if_pos ⟨line_word h,hl⟩]
end Go.Sp
namespace Go.Sp
def textR (w:Bs):Bs×Bool:=if w=[45] then ([],true) else if w=[126,109] then ([45],true) else match dec none w with
 | none=>([],false)
 | some b=>(b,decide (wr b=w))
theorem rd_textR (w:Bs):rd none w=if (textR w).2=true then some (textR w).1 else none:=by
 unfold rd textR
 split
 ·rfl
 ·split
  ·rfl
  ·cases h:dec none w with
   | none=>rfl
   | some b =>
    simp only [Option.bind_some]
    by_cases hb:wr b=w
    ·rw [if_pos hb,if_pos (by simpa using hb)]
    ·rw [if_neg hb,if_neg (by simpa using hb)]
def titleR (w:Bs):(Int×Bs)×Bool:=if (textR w).2=true then ((parseR (textR w).1).2,decide ((parseR (textR w).1).1=0) && decide (fmt (parseR (textR w).1).2.1 (parseR (textR w).1).2.2=(textR w).1)) else ((0,[]),false)
theorem rdT_titleR (w:Bs):rdT parseR w=if (titleR w).2=true then some (titleR w).1 else none:=by
 unfold rdT titleR
 rw [rd_textR]
 generalize (textR w).2=ok
 generalize (textR w).1=t
 generalize hr:parseR t=r
 cases ok with
 | false=>rfl
 | true =>
  by_cases h1:r.1=0 <;> by_cases h2:fmt r.2.1 r.2.2=t <;> simp [hr,h1,h2]
def numberR (w:Bs):Int×Bool:=if (mag w).length<1∨9<(mag w).length then (0,false) else match Lib.decFrom 0 (mag w) with
 | none=>(0,false)
 | some u=>((if mag w≠w then -(u:Int) else u),decide (Lib.itoa (if mag w≠w then -(u:Int) else u)=w))
theorem num_numberR (w:Bs):numP w=if (numberR w).2=true then some (numberR w).1 else none:=by
 rw [num_same]
 unfold numR numberR
 split
 ·rfl
 ·cases h:Lib.decFrom 0 (mag w) with
  | none=>rfl
  | some u =>
   simp only
   generalize (if mag w≠w then -(u:Int) else (u:Int))=v
   by_cases hb:Lib.itoa v=w
   ·rw [if_pos hb,if_pos (by simpa using hb)]
   ·rw [if_neg hb,if_neg (by simpa using hb)]
def fieldE (e:Ev) (f:Fld) (w:Bs):Ev:=match f with
 | .user=>{ e with user:=(textR w).1 }
 | .text=>{ e with text:=(textR w).1 }
 | .note=>{ e with note:=(textR w).1 }
 | .title=>{ e with tSp:=(titleR w).1.1,tN:=(titleR w).1.2 }
 | .to=>{ e with oSp:=(titleR w).1.1,oN:=(titleR w).1.2 }
 | .base=>{ e with base:=(numberR w).1 }
 | .num=>{ e with n:=(numberR w).1 }
 | .many=>e
def fieldB (f:Fld) (w:Bs):Bool:=match f with
 | .user | .text | .note=>(textR w).2
 | .title | .to=>(titleR w).2
 | .base | .num=>(numberR w).2
 | .many=>false
theorem fillW_field (e:Ev) (f:Fld) (w:Bs):fillW e f w=if fieldB f w=true then some (fieldE e f w) else none:=by
 have hn:∀ g:Int→Ev,(numP w).map g=if (numberR w).2=true then some (g (numberR w).1) else none:=by
  intro g;rw [num_numberR];cases (numberR w).2 <;> rfl
 have hs:∀ g:Bs→Ev,(rd none w).map g=if (textR w).2=true then some (g (textR w).1) else none:=by
  intro g;rw [rd_textR];cases (textR w).2 <;> rfl
 have ht:∀ g:Int×Bs→Ev,(rdT parseR w).map g=if (titleR w).2=true then some (g (titleR w).1) else none:=by
  intro g;rw [rdT_titleR];cases (titleR w).2 <;> rfl
 cases f
 case many=>rfl
 all_goals first | exact hs _ | exact ht _ | exact hn _
end Go.Sp
namespace Go.Sp
theorem nms_len:∀ i,(nms.getD i []).length≤8:=by
 intro i
 by_cases h:i<6
 ·have:i=0∨i=1∨i=2∨i=3∨i=4∨i=5:=by omega
  rcases this with rfl | rfl | rfl | rfl | rfl | rfl <;> decide
 ·rw [List.getD_eq_getElem?_getD,List.getElem?_eq_none (by show 6≤i;omega)];decide
theorem fmt_len (sp:Int) (n:Bs):(fmt sp n).length≤n.length+9:=by
 unfold fmt
 split
 ·split
  ·omega
  ·have:=nms_len sp.toNat
   rw [List.length_append,List.length_cons];omega
 ·simp
def sumL:List Bs→Nat
 | []=>0
 | p :: ps=>p.length+sumL ps
theorem sumL_le {b:Nat}:∀ {L:List Bs},(∀ p∈L,p.length≤b)→sumL L≤b * L.length
 | [],_=>by simp [sumL]
 | p :: ps,h=>by
  have h1:=h p List.mem_cons_self
  have h2:=sumL_le (L:=ps) fun q hq=>h q (List.mem_cons_of_mem _ hq)
  rw [sumL,List.length_cons,Nat.mul_succ];omega
theorem joinTail_sum (c:UInt8):∀ L:List Bs,(Lib.joinTail [c] L).length=sumL L+L.length
 | []=>rfl
 | p :: r=>by
  have ih:=joinTail_sum c r
  simp only [Lib.joinTail,List.map_cons,List.flatten_cons,List.length_append,List.length_cons,List.length_nil,sumL] at ih ⊢
  omega
theorem join_le (c:UInt8) (L:List Bs):(Lib.join L [c]).length≤sumL L+L.length:=by
 cases L with
 | nil=>simp [Lib.join]
 | cons p r=>rw [Lib.join_cons,List.length_append,joinTail_sum,sumL,List.length_cons];omega
structure Small (e:Ev):Prop where
 user:e.user.length≤40
 note:e.note.length≤500
 text:e.text.length≤1000
 tN:e.tN.length≤3
 oN:e.oN.length≤3
 base:0≤e.base∧e.base≤2000
 n:0≤e.n∧e.n≤2000
 h3:e.hist.length≤3
 ht:∀ r∈e.hist,r.text.length≤300
theorem word_len {e:Ev} (h:Small e) (f:Fld):(wordF e f).length≤2010:=by
 have hb:=itoa_len (v:=e.base) (by have:=h.base;omega)
 have hn:=itoa_len (v:=e.n) (by have:=h.n;omega)
 have h1:=wr_length e.user
 have h2:=wr_length e.text
 have h3:=wr_length e.note
 have h4:=wr_length (fmt e.tSp e.tN)
 have h5:=wr_length (fmt e.oSp e.oN)
 have h6:=fmt_len e.tSp e.tN
 have h7:=fmt_len e.oSp e.oN
 have k1:=h.user
 have k2:=h.text
 have k3:=h.note
 have k4:=h.tN
 have k5:=h.oN
 cases f <;> simp only [wordF,List.length_nil] <;> omega
theorem forms_small:∀ f∈forms,f.verb.length≤7∧f.kinds.length≤5:=by decide +kernel
theorem text_len {f:Form} (hf:f∈forms) {e:Ev} (h:Small e):(textF f e).length≤20000:=by
 obtain ⟨h1,h2⟩:=forms_small f hf
 have hw:∀ p∈wordsF f e,p.length≤2010:=by
  intro p hp
  unfold wordsF at hp
  rcases List.mem_cons.1 hp with rfl | hp
  ·omega
  ·rcases List.mem_append.1 hp with hp | hp
   ·obtain ⟨k,_,rfl⟩:=List.mem_map.1 hp
    exact word_len h k
   ·split at hp
    ·obtain ⟨r,hr,rfl⟩:=List.mem_map.1 hp
     have:=wr_length r.text
     have:=h.ht r hr
     omega
    ·cases hp
 have hl:(wordsF f e).length≤9:=by
  unfold wordsF
  have:=h.h3
  rw [List.length_cons,List.length_append,List.length_map]
  split
  ·rw [List.length_map];omega
  ·simp;omega
 have hj:=join_le 32 (wordsF f e)
 have hs:=sumL_le hw
 have:2010 * (wordsF f e).length≤2010 * 9:=Nat.mul_le_mul_left _ hl
 unfold textF
 omega
theorem back {f:Form} {e:Ev} (hc:CanWrite f e) (h:Small e):∃ s,formatS e=some s∧s.length≤20000∧parseS s=([e],0,0)∧parseS (s ++ [10])=([e],0,0):=by
 have hl:=text_len hc.mem h
 have hf:=format_can hc (by omega)
 have hp:=parse_line hf
 exact ⟨_,hf,hl,hp.1,hp.2 (by omega)⟩
end Go.Sp
namespace Go.Sp
def NumOk (e:Ev):Prop:=(-1000000000<e.base∧e.base<1000000000)∧(-1000000000<e.n∧e.n<1000000000)
theorem fillW_num {e e':Ev} {f:Fld} {w:Bs} (h:NumOk e) (hf:fillW e f w=some e'):NumOk e':=by
 cases f <;> simp only [fillW] at hf
 case base =>
  obtain ⟨v,hv,rfl⟩:=Option.map_eq_some_iff.1 hf
  exact ⟨(numP_iff.1 hv).2,h.2⟩
 case num =>
  obtain ⟨v,hv,rfl⟩:=Option.map_eq_some_iff.1 hf
  exact ⟨h.1,(numP_iff.1 hv).2⟩
 case many=>cases hf
 all_goals
  obtain ⟨v,_,rfl⟩:=Option.map_eq_some_iff.1 hf
  exact h
theorem fills_num:∀ {fs:List Fld} {e:Ev} {ws:List Bs} {e':Ev} {r:List Bs},NumOk e→fills e fs ws=some (e',r)→NumOk e'
 | [],e,ws,e',r,h,hf=>by
  obtain ⟨rfl,_⟩:=Prod.mk.inj (Option.some.inj (show some (e,ws)=some (e',r) from hf))
  exact h
 | _ :: _,_,[],_,_,_,hf=>by cases hf
 | f :: fs,e,w :: ws,e',r,h,hf=>by
  obtain ⟨x,h1,h2⟩:=Option.bind_eq_some_iff.1 (show ((fillW e f w).bind fun e=>fills e fs ws)=some (e',r) from hf)
  exact fills_num (fillW_num h h1) h2
theorem closes_num {m:Bool} {p:Ev×List Bs} {e:Ev} (h:NumOk p.1) (hc:closes m p=some e):NumOk e:=by
 unfold closes at hc
 split at hc
 ·split at hc
  ·cases hc
  ·obtain ⟨x,_,rfl⟩:=Option.map_eq_some_iff.1 hc
   exact h
 ·split at hc
  ·obtain rfl:=Option.some.inj hc
   exact h
  ·cases hc
theorem lineS_num {l:Bs} {e:Ev} (h:lineS l=some e):NumOk e:=by
 unfold lineS at h
 split at h
 ·cases h
 ·obtain ⟨f,_,hb⟩:=Option.bind_eq_some_iff.1 h
  obtain ⟨p,hp,hc⟩:=Option.bind_eq_some_iff.1 hb
  exact closes_num (fills_num ⟨⟨show (-1000000000:Int)<0 by decide,show (0:Int)<1000000000 by decide⟩,⟨show (-1000000000:Int)<0 by decide,show (0:Int)<1000000000 by decide⟩⟩ hp) hc
def textB (f:Form) (e:Ev):Bs:=f.verb ++ (f.kinds.flatMap fun k=>32 :: wordF e k) ++ (if f.many then 32 :: Lib.join (e.hist.map fun r=>wr r.text) [32] else [])
theorem joinTail_map (g:Fld→Bs):∀ ks:List Fld,Lib.joinTail [32] (ks.map g)=ks.flatMap fun k=>32 :: g k
 | []=>rfl
 | k :: ks=>by
  have:=joinTail_map g ks
  unfold Lib.joinTail at this ⊢
  rw [List.map_cons,List.map_cons,List.flatten_cons,this,List.flatMap_cons];rfl
theorem joinTail_app (a b:List Bs):Lib.joinTail [32] (a ++ b)=Lib.joinTail [32] a ++ Lib.joinTail [32] b:=by simp [Lib.joinTail]
theorem joinTail_join {b:List Bs} (h:b≠[]):Lib.joinTail [32] b=32 :: Lib.join b [32]:=by
 cases b with
 | nil=>exact absurd rfl h
 | cons x r=>rw [Lib.join_cons];simp [Lib.joinTail]
theorem textB_eq {f:Form} {e:Ev} (h:f.many=false∨e.hist≠[]):textB f e=textF f e:=by
 unfold textF wordsF textB
 rw [Lib.join_cons,joinTail_app,joinTail_map,List.append_assoc]
 congr 2
 rcases h with h | h
 ·rw [h];rfl
 ·cases f.many with
  | false=>rfl
  | true =>
   rw [if_pos rfl,if_pos rfl,joinTail_join]
   intro h2
   exact h (List.map_eq_nil_iff.1 h2)
theorem textB_none {f:Form} {e:Ev} (h1:f.many=true) (h2:e.hist=[]):textB f e=textF f e ++ [32]:=by
 unfold textF wordsF textB
 rw [Lib.join_cons,joinTail_app,joinTail_map,h1,h2]
 simp [Lib.joinTail,Lib.join_nil]
theorem splitL_snoc (c:UInt8):∀ l:Bs,splitL c (l ++ [c])=splitL c l ++ [[]]
 | []=>by rw [List.nil_append,splitL_hit];rfl
 | y :: r=>by
  by_cases h:y=c
  ·subst h
   rw [List.cons_append,splitL_hit,splitL_hit,splitL_snoc y r];rfl
  ·obtain ⟨p,ps,hp⟩:=splitL_cons c r
   rw [List.cons_append,splitL_miss h hp,splitL_miss h (show splitL c (r ++ [c])=p :: (ps ++ [[]]) by rw [splitL_snoc c r,hp];rfl)];rfl
theorem rd_nil:rd none []=none:=by decide
theorem many_none {f:Form} (hf:f∈forms) (hm:f.many=true) {e:Ev} {l v:Bs} {ws r:List Bs} (hv:v=f.verb) (hs:splitL 32 l=v :: (ws ++ r)) (hw:ws.length=f.kinds.length) (hr:r=[]∨r=[[]]):lineS l≠some e:=by
 intro h
 unfold lineS at h
 rw [hs] at h
 obtain ⟨g,hg,h3,h4,h5⟩:=find_verb f hf v hv
 have h:((forms.find? fun f=>f.verb == v).bind fun f=>byForm f (ws ++ r))=some e:=h
 rw [hg] at h
 have h:byForm g (ws ++ r)=some e:=h
 obtain ⟨p,hp,hc⟩:=Option.bind_eq_some_iff.1 h
 obtain ⟨h6,h7⟩:=fills_rest (e':=p.1) (r:=p.2) hp
 rw [h3,← hw,List.drop_left] at h6
 rw [h4,hm] at hc
 unfold closes at hc
 rw [if_pos rfl,h6] at hc
 rcases hr with rfl | rfl
 ·rw [if_pos rfl] at hc;cases hc
 ·rw [if_neg (by simp),revs,rd_nil] at hc
  cases hc
theorem formatS_B (e:Ev):formatS e=(forms.find? fun f=>f.kind == e.kind).bind fun f=>if lineS (textB f e)=some e∧(textB f e).length≤32768 then some (textB f e) else none:=by
 unfold formatS
 cases hf:forms.find? fun f=>f.kind == e.kind with
 | none=>rfl
 | some f =>
  have hm:=List.mem_of_find?_eq_some hf
  show (if lineS (textF f e)=some e∧(textF f e).length≤32768 then some (textF f e) else none)=if lineS (textB f e)=some e∧(textB f e).length≤32768 then some (textB f e) else none
  by_cases h:f.many=false∨e.hist≠[]
  ·rw [textB_eq h]
  ·have h1:f.many=true:=by
    cases hq:f.many with
    | false=>exact absurd (.inl hq) h
    | true=>rfl
   have h2:e.hist=[]:=Decidable.byContradiction fun h2=>h (.inr h2)
   have hsp:=text_split hm e
   have hw:wordsF f e=f.verb :: (f.kinds.map (wordF e) ++ []):=by unfold wordsF;rw [h1,h2];rfl
   rw [if_neg,if_neg]
   ·rintro ⟨h3,_⟩
    refine many_none hm h1 (ws:=f.kinds.map (wordF e)) (r:=[[]]) rfl ?_ (List.length_map _) (.inr rfl) h3
    rw [textB_none h1 h2,splitL_snoc,hsp,hw];simp
   ·rintro ⟨h3,_⟩
    exact many_none hm h1 (ws:=f.kinds.map (wordF e)) (r:=[]) rfl (hsp.trans hw) (List.length_map _) (.inl rfl) h3
end Go.Sp
namespace Go.Sp
def aNote:Bs:=[35,32,97,32,110,111,116,101]
def another:Bs:=[35,32,97,110,111,116,104,101,114,32,110,111,116,101]
def MadeLine (l:Bs):Prop:=l=[]∨l=aNote∨l=another∨∃ e,formatS e=some l
theorem made_no {l:Bs} (h:MadeLine l):10 ∉ l:=by
 rcases h with rfl | rfl | rfl | ⟨e,h⟩
 ·simp
 ·decide
 ·decide
 ·obtain ⟨f,hf,rfl,_⟩:=formatS_some h
  exact text_no hf e
theorem made_lines:∀ {ls:List Bs},(∀ l∈ls,MadeLine l)→∃ es,∀ i,linesS i ls=(es,0,0)
 | [],_=>⟨[],fun _=>rfl⟩
 | l :: ls,h=>by
  obtain ⟨es,he⟩:=made_lines fun x hx=>h x (List.mem_cons_of_mem _ hx)
  have note:isNote l→∃ es,∀ i,linesS i (l :: ls)=(es,0,0):=fun hn=>⟨es,fun i=>by rw [linesS_note hn,he]⟩
  rcases h l List.mem_cons_self with rfl | rfl | rfl | ⟨e,h1⟩
  ·exact note (.inl rfl)
  ·exact note (.inr rfl)
  ·exact note (.inr rfl)
  ·obtain ⟨f,hf,rfl,h2,_⟩:=formatS_some h1
   exact ⟨e :: es,fun i=>by rw [linesS_good (text_note hf e) h2,he];rfl⟩
def wrongs:List Bs:=[[102,108,117,115,104,32,110,111,119],[116,105,99,107,32,48,53],[116,105,99,107,32,45],[114,101,97,100,32,97,110,110,32,97,32,48],[114,101,97,100,32,97,110,110,32,65],
 [101,100,105,116,32,97,110,110,32,65,32,48,32,120,95,121,126,32,45],[119,111,114,107,32,49,50,51,52,53,54,55,56,57,48],[105,109,112,111,114,116,32,97,110,110,32,65],[32,102,108,117,115,104]]
theorem num_none {w:Bs} {v:Int} (h:Lib.atoiAll w=.ok v) (h2:(mag w).length > 9∨Lib.itoa v≠w):numP w=none:=by
 unfold numP
 rw [h]
 simp only
 rw [if_neg]
 rintro ⟨h3,h4⟩
 rcases h2 with h2 | h2
 ·omega
 ·exact h2 h4
theorem itoa5:Lib.itoa 5=[53]:=by
 rw [show (5:Int)=((5:Nat):Int) from rfl]
 unfold Lib.itoa
 rw [if_neg (by decide),show ((5:Nat):Int).toNat=5 from rfl,Lib.decDigits_one (by decide)]
 rfl
theorem find_tick:forms.find? (fun f=>f.verb == [116,105,99,107])=some ⟨[116,105,99,107],[.num],false,10⟩:=by rfl
theorem find_work:forms.find? (fun f=>f.verb == [119,111,114,107])=some ⟨[119,111,114,107],[.num],false,19⟩:=by rfl
theorem one_num {v:Bs} {k:Int} {w l:Bs} (hs:splitL 32 l=[v,w]) (hf:forms.find? (fun f=>f.verb == v)=some ⟨v,[.num],false,k⟩) (hn:numP w=none):lineS l=none:=by
 unfold lineS
 rw [hs]
 simp only
 rw [hf]
 simp only [Option.bind_some,byForm,fills,fillW,hn,Option.map_none,Option.bind_none]
theorem fills_bad4 {e:Ev} {a b c d:Bs} {ws:List Bs} (h:rd none d=none):fills e [.user,.title,.base,.text,.note] (a :: b :: c :: d :: ws)=none:=by
 simp only [fills]
 cases fillW e .user a with
 | none=>rfl
 | some e1 =>
  simp only [Option.bind_some]
  cases fillW e1 .title b with
  | none=>rfl
  | some e2 =>
   simp only [Option.bind_some]
   cases fillW e2 .base c with
   | none=>rfl
   | some e3 =>
    simp only [Option.bind_some]
    rw [show fillW e3 .text d=none by simp only [fillW,h,Option.map_none]];rfl
theorem find_edit:forms.find? (fun f=>f.verb == [101,100,105,116])=some ⟨[101,100,105,116],[.user,.title,.base,.text,.note],false,1⟩:=by rfl
theorem edit_none {l a b c d:Bs} {ws:List Bs} (hs:splitL 32 l=[101,100,105,116] :: a :: b :: c :: d :: ws) (h:rd none d=none):lineS l=none:=by
 unfold lineS
 rw [hs]
 simp only
 rw [find_edit]
 simp only [Option.bind_some,byForm]
 rw [fills_bad4 h];rfl
theorem wrong_lines:∀ w∈wrongs,¬ isNote w∧lineS w=none∧10 ∉ w∧w.length≤30:=by
 intro w hw
 simp only [wrongs,List.mem_cons,List.not_mem_nil,or_false] at hw
 rcases hw with rfl | rfl | rfl | rfl | rfl | rfl | rfl | rfl | rfl
 ·exact ⟨by decide,by decide +kernel,by decide,by decide⟩
 ·exact ⟨by decide,one_num (w:=[48,53]) (by decide) find_tick (num_none (v:=5) (by decide) (.inr (by rw [itoa5];decide))),by decide,by decide⟩
 ·exact ⟨by decide,one_num (w:=[45]) (by decide) find_tick (by unfold numP;rw [show Lib.atoiAll [45]=Lib.atoiAll [] from by decide];rfl),by decide,by decide⟩
 ·exact ⟨by decide,by decide +kernel,by decide,by decide⟩
 ·exact ⟨by decide,by decide +kernel,by decide,by decide⟩
 ·exact ⟨by decide,edit_none (a:=[97,110,110]) (b:=[65]) (c:=[48]) (d:=[120,95,121,126]) (ws:=[[45]]) (by decide) (by decide),by decide,by decide⟩
 ·exact ⟨by decide,one_num (w:=[49,50,51,52,53,54,55,56,57,48]) (by decide) find_work (num_none (v:=1234567890) (by decide) (.inl (by decide))),by decide,by decide⟩
 ·exact ⟨by decide,by decide +kernel,by decide,by decide⟩
 ·exact ⟨by decide,by decide +kernel,by decide,by decide⟩
theorem parse_wrong {ls:List Bs} (h:∀ l∈ls,MadeLine l) {w:Bs} (hw:w∈wrongs) (h1:(lns ls).length+60≤32768) (h2:ls.length+3<400) :
 parseS (lns ls ++ (w ++ [10,102,108,117,115,104,10]))=([],(ls.length:Int)+1,1):=by
 obtain ⟨w1,w2,w3,w4⟩:=wrong_lines w hw
 obtain ⟨es,he⟩:=made_lines h
 have e:lns ls ++ (w ++ [10,102,108,117,115,104,10])=lns ((ls ++ [w]) ++ [[102,108,117,115,104]]):=by
  rw [lns_app,lns_app,List.append_assoc,lns_cons,lns_cons]
  simp [lns]
 have hb:bodyOf (lns ((ls ++ [w]) ++ [[102,108,117,115,104]]))=(ls ++ [w]) ++ [[102,108,117,115,104]]:=by
  refine body_lns (fun l hl=>?_) (by decide)
  rcases List.mem_append.1 hl with hl | hl
  ·exact made_no (h l hl)
  ·obtain rfl:l=w:=by simpa using hl
   exact w3
 have hlen:(lns ls ++ (w ++ [10,102,108,117,115,104,10])).length≤32768:=by
  simp only [List.length_append,List.length_cons,List.length_nil]
  omega
 rw [e] at hlen ⊢
 unfold parseS
 rw [hb,if_neg (by simp only [List.length_append,List.length_cons,List.length_nil];omega),List.append_assoc,linesS_app (he 0),List.singleton_append,linesS_bad w1 w2]
 simp [joinR]
theorem count_lns {ls:List Bs} (h:∀ l∈ls,10 ∉ l):(lns ls).count 10=ls.length:=by
 induction ls with
 | nil=>rfl
 | cons l ls ih =>
  rw [lns_cons,List.count_append,List.count_cons_self,ih fun x hx=>h x (List.mem_cons_of_mem _ hx),List.count_eq_zero.2 (h l List.mem_cons_self),List.length_cons]
  omega
end Go.Sp
namespace Go.Sp
structure Small2 (e:Ev):Prop where
 user:e.user.length≤40
 note:e.note.length≤40
 text:e.text.length≤300
 tN:e.tN.length≤3
 oN:e.oN.length≤3
 base:0≤e.base∧e.base≤2000
 n:0≤e.n∧e.n≤2000
 h3:e.hist.length≤3
 ht:∀ r∈e.hist,r.text.length≤300
def bnd:Fld→Nat
 | .user=>81 | .title=>25 | .to=>25 | .text=>601 | .note=>81 | .base=>10 | .num=>10 | .many=>0
theorem word_len2 {e:Ev} (h:Small2 e) (f:Fld):(wordF e f).length≤bnd f:=by
 have hb:=itoa_len (v:=e.base) (by have:=h.base;omega)
 have hn:=itoa_len (v:=e.n) (by have:=h.n;omega)
 have h1:=wr_length e.user
 have h2:=wr_length e.text
 have h3:=wr_length e.note
 have h4:=wr_length (fmt e.tSp e.tN)
 have h5:=wr_length (fmt e.oSp e.oN)
 have h6:=fmt_len e.tSp e.tN
 have h7:=fmt_len e.oSp e.oN
 have k1:=h.user
 have k2:=h.text
 have k3:=h.note
 have k4:=h.tN
 have k5:=h.oN
 cases f <;> simp only [wordF,bnd,List.length_nil] <;> omega
theorem sum_words {e:Ev} (h:Small2 e):∀ ks:List Fld,sumL (ks.map (wordF e))≤(ks.map bnd).sum
 | []=>Nat.le_refl _
 | k :: ks=>by
  have h1:=word_len2 h k
  have h2:=sum_words h ks
  simp only [List.map_cons,sumL,List.sum_cons] at h2 ⊢
  omega
theorem forms_bnd:∀ f∈forms,f.verb.length+(f.kinds.map bnd).sum+f.kinds.length≤850:=by decide +kernel
theorem sumL_app (a b:List Bs):sumL (a ++ b)=sumL a+sumL b:=by
 induction a with
 | nil=>simp [sumL]
 | cons x a ih=>simp only [List.cons_append,sumL,ih];omega
theorem text_len2 {f:Form} (hf:f∈forms) {e:Ev} (h:Small2 e):(textF f e).length≤2660:=by
 have h1:=forms_bnd f hf
 have h2:=sum_words h f.kinds
 unfold textF wordsF
 rw [Lib.join_cons,List.length_append,joinTail_sum,sumL_app,List.length_append,List.length_map]
 have h3:sumL (if f.many then e.hist.map fun r=>wr r.text else [])+(if f.many then e.hist.map fun r=>wr r.text else []).length≤1806:=by
  split
  ·have h4:=sumL_le (b:=601) (L:=e.hist.map fun r=>wr r.text) (fun p hp=>by
    obtain ⟨r,hr,rfl⟩:=List.mem_map.1 hp
    have h5:=wr_length r.text
    have h6:=h.ht r hr
    omega)
   rw [List.length_map] at h4 ⊢
   have h7:=h.h3
   have h8:601 * e.hist.length≤601 * 3:=Nat.mul_le_mul_left _ h7
   omega
  ·exact Nat.zero_le _
 omega
theorem textB_len2 {f:Form} (hf:f∈forms) {e:Ev} (h:Small2 e):(textB f e).length≤2661:=by
 have h1:=text_len2 hf h
 by_cases hm:f.many=false∨e.hist≠[]
 ·rw [textB_eq hm];omega
 ·have h2:f.many=true:=by
   cases hq:f.many with
   | false=>exact absurd (.inl hq) hm
   | true=>rfl
  have h3:e.hist=[]:=Decidable.byContradiction fun q=>hm (.inr q)
  rw [textB_none h2 h3,List.length_append,List.length_singleton];omega
end Go.Sp
