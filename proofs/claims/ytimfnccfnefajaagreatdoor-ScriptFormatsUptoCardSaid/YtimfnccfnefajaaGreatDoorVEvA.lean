/- A part of the proof: EvDef -/
import GoSem.Dispatch
set_option linter.unusedSimpArgs false
set_option linter.unusedVariables false
namespace Go.Ev
noncomputable section
section
variable {α β γ:Type}
def sw (c:Bool) (x y:β):β:=@Bool.rec (fun _=>β) y x c
def band (x y:Bool):Bool:=@Bool.rec (fun _=>Bool) false y x
def bor (x y:Bool):Bool:=@Bool.rec (fun _=>Bool) y true x
def bnot (x:Bool):Bool:=@Bool.rec (fun _=>Bool) true false x
def beqB (x y:Bool):Bool:=@Bool.rec (fun _=>Bool) (bnot y) y x
def obind (x:Option α) (f:α→Option β):Option β:=@Option.rec α (fun _=>Option β) none f x
def omap (f:α→β) (x:Option α):Option β:=@Option.rec α (fun _=>Option β) none (fun a=>some (f a)) x
def oelim (x:Option α) (d:β) (f:α→β):β:=@Option.rec α (fun _=>β) d f x
def isNoneB (x:Option α):Bool:=@Option.rec α (fun _=>Bool) true (fun _=>false) x
def grd (b:Bool) (x:Option β):Option β:=@Bool.rec (fun _=>Option β) none x b
def ncase (n:Nat) (z:β) (s:Nat→β):β:=@Nat.rec (fun _=>β) z (fun j _=>s j) n
def nlt (a b:Nat):Bool:=Nat.ble (Nat.succ a) b
def lget (l:List α):Nat→Option α:=@List.rec α (fun _=>Nat→Option α) (fun _=>none) (fun a _ f i=>ncase i (some a) f) l
def llen (l:List α):Nat:=@List.rec α (fun _=>Nat) 0 (fun _ _ n=>Nat.succ n) l
def lcase (l:List α) (z:β) (s:α→List α→β):β:=@List.rec α (fun _=>β) z (fun a as _=>s a as) l
def ltake (n:Nat):List α→List α:=@Nat.rec (fun _=>List α→List α) (fun _=>[]) (fun _ f l=>lcase l [] fun a as=>a :: f as) n
def ldrop (n:Nat):List α→List α:=@Nat.rec (fun _=>List α→List α) (fun l=>l) (fun _ f l=>lcase l [] fun _ as=>f as) n
def lapp (x y:List α):List α:=@List.rec α (fun _=>List α) y (fun a _ r=>a :: r) x
def lmap (f:α→β) (l:List α):List β:=@List.rec α (fun _=>List β) [] (fun a _ r=>f a :: r) l
def lall (f:α→Bool) (l:List α):Bool:=@List.rec α (fun _=>Bool) true (fun a _ r=>band (f a) r) l
def lfind (f:α→Bool) (l:List α):Option α:=@List.rec α (fun _=>Option α) none (fun a _ r=>sw (f a) (some a) r) l
def isNilB (l:List α):Bool:=@List.rec α (fun _=>Bool) true (fun _ _ _=>false) l
def ocons (a:Option α) (r:Option (List α)):Option (List α):=obind a fun a=>omap (fun r=>a :: r) r
def lmapO (f:α→Option β) (l:List α):Option (List β):=@List.rec α (fun _=>Option (List β)) (some []) (fun a _ r=>ocons (f a) r) l
def repl (zero:List α) (n:Nat):List α:=@Nat.rec (fun _=>List α) [] (fun _ r=>lapp zero r) n
def takeCells (vs:List α) (off n:Nat):Option (List α):=grd (Nat.ble (Nat.add off n) (llen vs)) (some (ltake n (ldrop off vs)))
def putCells (new:List α) (off:Nat) (vs:List α):List α:=lapp (ltake off vs) (lapp new (ldrop (Nat.add off (llen new)) vs))
end
inductive Tr (α:Type) where
 | leaf
 | node (l:Tr α) (v:Option α) (r:Tr α)
namespace Tr
variable {α β:Type}
def sel (j:Nat) (x y:β):β:=sw (Nat.beq (Nat.mod j 2) 0) x y
def getNode (v:Option α) (gl gr:Nat→Option α) (i:Nat):Option α:=ncase i v fun j=>sel j gl gr (Nat.div j 2)
def get (t:Tr α):Nat→Option α:=@Tr.rec α (fun _=>Nat→Option α) (fun _=>none) (fun _ v _ gl gr=>getNode v gl gr) t
def tcase (t:Tr α) (z:β) (s:Tr α→Option α→Tr α→β):β:=@Tr.rec α (fun _=>β) z (fun l v r _ _=>s l v r) t
def setHere (x:Option α) (t:Tr α):Tr α:=tcase t (.node .leaf x .leaf) fun l _ r=>.node l x r
def setL (f:Tr α→Nat→Tr α) (j:Nat) (t:Tr α):Tr α:=tcase t (.node (f .leaf j) none .leaf) fun l v r=>.node (f l j) v r
def setR (f:Tr α→Nat→Tr α) (j:Nat) (t:Tr α):Tr α:=tcase t (.node .leaf none (f .leaf j)) fun l v r=>.node l v (f r j)
def setStep (x:Option α) (f:Tr α→Nat→Tr α) (t:Tr α) (i:Nat):Tr α:=ncase i (setHere x t) fun j=>sel j (setL f) (setR f) (Nat.div j 2) t
def setAux (x:Option α) (n:Nat):Tr α→Nat→Tr α:=@Nat.rec (fun _=>Tr α→Nat→Tr α) (fun t _=>setHere x t) (fun _ f=>setStep x f) n
def put (t:Tr α) (i:Nat) (x:Option α):Tr α:=setAux x i t i
def set (t:Tr α) (i:Nat) (x:α):Tr α:=t.put i (some x)
def erase (t:Tr α) (i:Nat):Tr α:=t.put i none
def ofListFrom (l:List α):Nat→Tr α→Tr α:=@List.rec α (fun _=>Nat→Tr α→Tr α) (fun _ t=>t) (fun x _ f i t=>f (Nat.succ i) (t.set i x)) l
def ofList (l:List α):Tr α:=ofListFrom l 0 .leaf
def map (f:α→β) (t:Tr α):Tr β:=@Tr.rec α (fun _=>Tr β) .leaf (fun _ v _ l r=>.node l (omap f v) r) t
end Tr
inductive AV where
 | bool (b:Bool)
 | int (k:IntKind) (n:Int)
 | str (s:List UInt8)
 | ptr (a:Option (Nat×Nat))
 | slice (a:Option (Nat×Nat)) (len cap:Nat) (opn:Bool)
 | sliceE (n o0 o:Nat) (opn:Bool)
 | map (r:Option Nat)
 | func (fn:Fn) (first captured:List AV)
 | nilFunc
 | iface (t:TypeId) (v:AV)
 | nilIface
 | agg (cs:List AV)
 | tuple (vs:List AV)
def AV.el {β:Type} (b:Bool→β) (i:IntKind→Int→β) (s:List UInt8→β) (p:Option (Nat×Nat)→β) (sl:Option (Nat×Nat)→Nat→Nat→Bool→β)
 (se:Nat→Nat→Nat→Bool→β) (m:Option Nat→β) (f:Fn→List AV→List AV→β) (nf:β) (ifc:TypeId→AV→β) (ni:β) (ag:List AV→β) (tu:List AV→β) (v:AV):β :=
 @AV.rec (fun _=>β) (fun _=>Unit) b i s p sl se m (fun fn a c _ _=>f fn a c) nf (fun t v _=>ifc t v) ni (fun cs _=>ag cs) (fun vs _=>tu vs) () (fun _ _ _ _=>()) v
def undefA:AV:=.tuple []
section
variable {β:Type}
def no1 {α:Type} (_:α):Option β:=none
def no2 {α γ:Type} (_:α) (_:γ):Option β:=none
def no3 {α γ δ:Type} (_:α) (_:γ) (_:δ):Option β:=none
def no4 {α γ δ ε:Type} (_:α) (_:γ) (_:δ) (_:ε):Option β:=none
end
def AV.asBool:AV→Option Bool:=AV.el some no2 no1 no1 no4 no4 no1 no3 none no2 none no1 no1
def mkPair {α β:Type} (a:α) (b:β):Option (α×β):=some (a,b)
def AV.asInt:AV→Option (IntKind×Int):=AV.el no1 mkPair no1 no1 no4 no4 no1 no3 none no2 none no1 no1
def AV.asStr:AV→Option (List UInt8):=AV.el no1 no2 some no1 no4 no4 no1 no3 none no2 none no1 no1
def optId (a:Option (Nat×Nat)):Option (Nat×Nat):=a
def AV.asPtr:AV→Option (Nat×Nat):=AV.el no1 no2 no1 optId no4 no4 no1 no3 none no2 none no1 no1
def AV.asAgg:AV→Option (List AV):=AV.el no1 no2 no1 no1 no4 no4 no1 no3 none no2 none some no1
def AV.asTuple:AV→Option (List AV):=AV.el no1 no2 no1 no1 no4 no4 no1 no3 none no2 none no1 some
def optIdN (a:Option Nat):Option Nat:=a
def AV.asMap:AV→Option (Option Nat):=AV.el no1 no2 no1 no1 no4 no4 some no3 none no2 none no1 no1
def intNat (_:IntKind) (n:Int):Option Nat:=@Int.rec (fun _=>Option Nat) some no1 n
def AV.asNat:AV→Option Nat:=AV.el no1 intNat no1 no1 no4 no4 no1 no3 none no2 none no1 no1
def AV.cells (v:AV):List AV:=AV.el (fun b=>[.bool b]) (fun k n=>[.int k n]) (fun s=>[.str s]) (fun a=>[.ptr a]) (fun a l c o=>[.slice a l c o]) (fun n a b o=>[.sliceE n a b o]) (fun r=>[.map r])
 (fun f a b=>[.func f a b]) [.nilFunc] (fun t v=>[.iface t v]) [.nilIface] (fun cs=>cs) (fun vs=>[.tuple vs]) v
def AV.one:AV→Bool:=AV.el (fun _=>true) (fun _ _=>true) (fun _=>true) (fun _=>true) (fun _ _ _ _=>true) (fun _ _ _ _=>true) (fun _=>true) (fun _ _ _=>true) true (fun _ _=>true) true (fun _=>false) (fun _=>false)
def ileN (a:Nat) (y:Int):Bool:=@Int.rec (fun _=>Bool) (fun b=>Nat.ble a b) (fun _=>false) y
def ileS (a:Nat) (y:Int):Bool:=@Int.rec (fun _=>Bool) (fun _=>true) (fun b=>Nat.ble b a) y
def ile (x:Int):Int→Bool:=@Int.rec (fun _=>Int→Bool) ileN ileS x
def ilt (a b:Int):Bool:=bnot (ile b a)
def ieqN (a:Nat) (y:Int):Bool:=@Int.rec (fun _=>Bool) (fun b=>Nat.beq a b) (fun _=>false) y
def ieqS (a:Nat) (y:Int):Bool:=@Int.rec (fun _=>Bool) (fun _=>false) (fun b=>Nat.beq a b) y
def ieq (x:Int):Int→Bool:=@Int.rec (fun _=>Int→Bool) ieqN ieqS x
def inat (x:Int):Option Nat:=@Int.rec (fun _=>Option Nat) some no1 x
def wrapSN (k:IntKind) (top m:Nat):Int:=sw (Nat.ble m top) (.ofNat m) (k.wrap (.ofNat m))
def wrapSS (k:IntKind) (top m:Nat):Int:=sw (Nat.ble m top) (.negSucc m) (k.wrap (.negSucc m))
def wrapS (k:IntKind) (top:Nat) (x:Int):Int:=@Int.rec (fun _=>Int) (wrapSN k top) (wrapSS k top) x
def wrapU (k:IntKind) (md:Nat) (x:Int):Int:=@Int.rec (fun _=>Int) (fun m=>.ofNat (Nat.mod m md)) (fun m=>k.wrap (.negSucc m)) x
def wrapF (k:IntKind):Int→Int:=@IntKind.rec (fun _=>Int→Int) (wrapS .i8 127) (wrapS .i16 32767) (wrapS .i32 2147483647) (wrapS .i64 9223372036854775807)
 (wrapU .u8 256) (wrapU .u16 65536) (wrapU .u32 4294967296) (wrapU .u64 18446744073709551616) k
def addNN (a:Nat) (y:Int):Int:=@Int.rec (fun _=>Int) (fun b=>.ofNat (Nat.add a b)) (fun b=>Int.subNatNat a (Nat.succ b)) y
def addSN (a:Nat) (y:Int):Int:=Int.add (.negSucc a) y
def addF (x:Int):Int→Int:=@Int.rec (fun _=>Int→Int) addNN addSN x
def subNN (a:Nat) (y:Int):Int:=@Int.rec (fun _=>Int) (fun b=>sw (Nat.ble b a) (.ofNat (Nat.sub a b)) (Int.subNatNat a b)) (fun b=>.ofNat (Nat.add a (Nat.succ b))) y
def subSN (a:Nat) (y:Int):Int:=Int.sub (.negSucc a) y
def subF (x:Int):Int→Int:=@Int.rec (fun _=>Int→Int) subNN subSN x
def mulNN (a:Nat) (y:Int):Int:=@Int.rec (fun _=>Int) (fun b=>.ofNat (Nat.mul a b)) (fun b=>Int.mul (.ofNat a) (.negSucc b)) y
def mulSN (a:Nat) (y:Int):Int:=Int.mul (.negSucc a) y
def mulF (x:Int):Int→Int:=@Int.rec (fun _=>Int→Int) mulNN mulSN x
def kidx (k:IntKind):Nat:=@IntKind.rec (fun _=>Nat) 0 1 2 3 4 5 6 7 k
def kindEq (a b:IntKind):Bool:=Nat.beq (kidx a) (kidx b)
def beqByte (a b:UInt8):Bool:=Nat.beq a.toNat b.toNat
def eqBytes (x:List UInt8):List UInt8→Bool :=
 @List.rec UInt8 (fun _=>List UInt8→Bool) isNilB (fun a _ f y=>lcase y false fun b bs=>band (beqByte a b) (f bs)) x
def ltBytes (x:List UInt8):List UInt8→Bool :=
 @List.rec UInt8 (fun _=>List UInt8→Bool) (fun y=>bnot (isNilB y)) (fun a _ f y=>lcase y false fun b bs=>bor (nlt a.toNat b.toNat) (band (beqByte a b) (f bs))) x
def byteV (c:UInt8):AV:=.int .u8 (.ofNat c.toNat)
def byteIn (n:Nat):Option UInt8:=grd (nlt n 256) (some (UInt8.ofNat n))
def byteOfI (p:IntKind×Int):Option UInt8:=grd (kindEq p.1 .u8) (obind (inat p.2) byteIn)
def byteOf (v:AV):Option UInt8:=obind v.asInt byteOfI
def bytesOf (l:List AV):Option (List UInt8):=lmapO byteOf l
def absPtr (a:Option Addr):Option AV:=@Option.rec Addr (fun _=>Option AV) (some (.ptr none)) no1 a
def absSlice (a:Option Addr) (n c:Nat):Option AV:=grd (band (isNoneB a) (band (Nat.beq n 0) (Nat.beq c 0))) (some (.slice none 0 0 false))
def absMap (a:Option Nat):Option AV:=@Option.rec Nat (fun _=>Option AV) (some (.map none)) no1 a
abbrev M1:Value→Type:=fun _=>Option AV
abbrev M2:Array Value→Type:=fun _=>Option (List AV)
abbrev M3:List Value→Type:=fun _=>Option (List AV)
def aBool (b:Bool):Option AV:=some (.bool b)
def aInt (k:IntKind) (n:Int):Option AV:=some (.int k n)
def aStr (s:ByteArray):Option AV:=some (.str s.data.toList)
def aFunc (fn:Fn) (_ _:Array Value) (a b:Option (List AV)):Option AV:=obind a fun a=>omap (fun b=>.func fn a b) b
def aIface (t:TypeId) (_:Value) (v:Option AV):Option AV:=omap (.iface t) v
def aAgg (_:Array Value) (cs:Option (List AV)):Option AV:=omap .agg cs
def aTup (_:Array Value) (cs:Option (List AV)):Option AV:=omap .tuple cs
def aArr (_:List Value) (l:Option (List AV)):Option (List AV):=l
def aCons (_:Value) (_:List Value) (a:Option AV) (r:Option (List AV)):Option (List AV):=ocons a r
def absV (v:Value):Option AV:=@Value.rec M1 M2 M3 aBool aInt no2 no3 aStr absPtr absSlice absMap no1 aFunc (some .nilFunc) aIface (some .nilIface) aAgg aTup aArr (some []) aCons v
def absA (v:Array Value):Option (List AV):=@Value.rec_1 M1 M2 M3 aBool aInt no2 no3 aStr absPtr absSlice absMap no1 aFunc (some .nilFunc) aIface (some .nilIface) aAgg aTup aArr (some []) aCons v
def absL (v:List Value):Option (List AV):=@Value.rec_2 M1 M2 M3 aBool aInt no2 no3 aStr absPtr absSlice absMap no1 aFunc (some .nilFunc) aIface (some .nilIface) aAgg aTup aArr (some []) aCons v
inductive AObj where
 | cells (vs:List AV) (elem:TypeId) (frz:Nat) (strish:Bool)
 | map (es:List (AV×AV×Nat)) (clock:Nat)
 | siter (s:List UInt8) (pos:Nat)
section
variable {β:Type}
def AObj.el (c:List AV→TypeId→Nat→Bool→β) (m:List (AV×AV×Nat)→Nat→β) (s:List UInt8→Nat→β) (o:AObj):β:=@AObj.rec (fun _=>β) c m s o
end
inductive UK where
 | bool | int (k:IntKind) | string | unsafePointer
 | ptr (e:TypeId) | slice (e:TypeId) | array (n:Nat) (e:TypeId) | map (k e:TypeId)
 | struct (fs:List (Nat×TypeId)) (plain:Bool)
 | func | iface (bare:Bool) | other
def UK.asInt (u:UK):Option IntKind:=@UK.rec (fun _=>Option IntKind) none some none none no1 no1 no2 no2 no2 none no1 none u
def UK.asSlice (u:UK):Option TypeId:=@UK.rec (fun _=>Option TypeId) none no1 none none no1 some no2 no2 no2 none no1 none u
def UK.asPtr (u:UK):Option TypeId:=@UK.rec (fun _=>Option TypeId) none no1 none none some no1 no2 no2 no2 none no1 none u
def UK.asArray (u:UK):Option (Nat×TypeId):=@UK.rec (fun _=>Option (Nat×TypeId)) none no1 none none no1 no1 mkPair no2 no2 none no1 none u
def UK.asMap (u:UK):Option (TypeId×TypeId):=@UK.rec (fun _=>Option (TypeId×TypeId)) none no1 none none no1 no1 no2 mkPair no2 none no1 none u
def UK.asStruct (u:UK):Option (List (Nat×TypeId)×Bool):=@UK.rec (fun _=>Option (List (Nat×TypeId)×Bool)) none no1 none none no1 no1 no2 no2 mkPair none no1 none u
def UK.isIface (u:UK):Bool:=@UK.rec (fun _=>Bool) false (fun _=>false) false false (fun _=>false) (fun _=>false) (fun _ _=>false) (fun _ _=>false) (fun _ _=>false) false (fun _=>true) false u
def UK.isAgg (u:UK):Bool:=@UK.rec (fun _=>Bool) false (fun _=>false) false false (fun _=>false) (fun _=>false) (fun _ _=>true) (fun _ _=>false) (fun _ _=>true) false (fun _=>false) false u
def UK.isStr (u:UK):Bool:=@UK.rec (fun _=>Bool) false (fun _=>false) true false (fun _=>false) (fun _=>false) (fun _ _=>false) (fun _ _=>false) (fun _ _=>false) false (fun _=>false) false u
def UK.isUnsafe (u:UK):Bool:=@UK.rec (fun _=>Bool) false (fun _=>false) false true (fun _=>false) (fun _=>false) (fun _ _=>false) (fun _ _=>false) (fun _ _=>false) false (fun _=>false) false u
def UK.isOther (u:UK):Bool:=@UK.rec (fun _=>Bool) false (fun _=>false) false false (fun _=>false) (fun _=>false) (fun _ _=>false) (fun _ _=>false) (fun _ _=>false) false (fun _=>false) true u
def UK.isByte (u:UK):Bool:=oelim u.asInt false fun k=>kindEq k .u8
structure TI where
 uk:UK
 size:Nat
 bytes:Nat
 zero:Option AV
 methods:List (String×Option (FuncId×Bool))
inductive Ext where
 | indexByte | count | cmp | same | mark (adr:Bool) | atomLoad (k:IntKind) | atomStore | atomCas (k:IntKind) | atomAdd (k:IntKind)
 | insert (elem:TypeId) | makeNoZero (elem:TypeId) | index (g:Nat)
structure Env where
 ty:Tr TI
 fn:Tr Func
 ext:Tr Ext
 gl:Nat
 dx:Tr Nat
structure St where
 H:Tr AObj
 k:Nat
structure Fr where
 n:Nat
 gl:Nat
 tmps:Tr AV
 defs:List (FuncId×List AV)
abbrev Mem:=Tr AObj
inductive Nx where
 | val (v:AV) (s:St)
 | call (f:FuncId) (args:List AV) (s:St)
 | defer (f:FuncId) (args:List AV) (s:St)
inductive Sil where
 | val (v:AV)
 | read (n:Nat) (g:AObj→Option AV)
 | new (o:AObj) (mk:Nat→AV)
 | loud
inductive Ex where
 | normal | exit (id:Nat) | ret
inductive Task where
 | code (K:Mem) (c:Code) (fr:Fr) (s:St)
 | call (K:Mem) (f:FuncId) (args:List AV) (s:St)
 | dcall (K:Mem) (f:FuncId) (args:List AV) (s:St)
inductive Res where
 | code (e:Ex) (fr:Fr) (s:St)
 | call (v:AV) (s:St)
def orLook (K:Mem) (n:Nat) (o:Option AObj):Option AObj:=@Option.rec AObj (fun _=>Option AObj) (K.get n) some o
def look (K:Mem) (s:St) (n:Nat):Option AObj:=orLook K n (s.H.get n)
def newSt (o:AObj) (s:St):St:=⟨s.H.set s.k o,Nat.succ s.k⟩
def setObj (s:St) (n:Nat) (o:AObj):St:=⟨s.H.set n o,s.k⟩
def tmpV (o:Option AV):Option AV:=@Option.rec AV (fun _=>Option AV) (some undefA) some o
def evTmp (t:Nat) (fr:Fr):Option AV:=tmpV (fr.tmps.get t)
def evConst (v:Value) (_:Fr):Option AV:=absV v
def evGlobal (g:Nat) (fr:Fr):Option AV:=grd (nlt g fr.gl) (some (.ptr (some (g,0))))
def evFunc (f:Nat) (_:Fr):Option AV:=some (.func (.func f) [] [])
def evalX (x:Operand):Fr→Option AV:=@Operand.rec (fun _=>Fr→Option AV) evTmp evConst evGlobal evFunc x
def putFr (d:Nat) (v:AV) (fr:Fr):Option Fr:=grd (nlt d fr.n) (some ⟨fr.n,fr.gl,fr.tmps.set d v,fr.defs⟩)
def putNo (_:AV) (fr:Fr):Option Fr:=some fr
def putD (d:Option Tmp):AV→Fr→Option Fr:=@Option.rec Tmp (fun _=>AV→Fr→Option Fr) putNo putFr d
def evalAll (l:List Operand) (fr:Fr):Option (List AV):=lmapO (fun x=>evalX x fr) l
def evPart (fr:Fr) (p:Nat×Operand):Option (Nat×AV):=omap (fun a=>(p.1,a)) (evalX p.2 fr)
def evalParts (l:List (Nat×Operand)) (fr:Fr):Option (List (Nat×AV)):=lmapO (evPart fr) l
def evalOpt (o:Option Operand) (fr:Fr):Option (Option AV):=@Option.rec Operand (fun _=>Option (Option AV)) (some none) (fun x=>omap some (evalX x fr)) o
def sizeT (E:Env) (t:TypeId):Option Nat:=omap TI.size (E.ty.get t)
def ukT (E:Env) (t:TypeId):Option UK:=omap TI.uk (E.ty.get t)
def partBy (cs:List AV) (off:Nat) (i:TI):Option AV:=sw i.uk.isAgg (omap .agg (takeCells cs off i.size)) (grd (bnot i.uk.isOther) (lget cs off))
def part (E:Env) (t:TypeId) (cs:List AV) (off:Nat):Option AV:=obind (E.ty.get t) (partBy cs off)
def loadObj (off:Nat) (i:TI):AObj→Option AV:=AObj.el (fun vs _ _ _=>partBy vs off i) no2 no2
def putObj (s:St) (n off:Nat) (new:List AV):AObj→Option St :=
 AObj.el (fun vs e frz sh=>grd (band (Nat.ble frz off) (band (Nat.ble (Nat.add off (llen new)) (llen vs)) (lall AV.one new))) (some (setObj s n (.cells (putCells new off vs) e frz sh)))) no2 no2
def storeAt (a:Nat×Nat) (new:List AV) (s:St):Option St:=lcase new (some s) fun _ _=>obind (s.H.get a.1) (putObj s a.1 a.2 new)
abbrev SF:=Env→Fr→Option Sil
def sv (x:Option AV):Option Sil:=omap .val x
def sMove (x:Operand):SF:=fun _ fr=>sv (evalX x fr)
def sPick (c a b:Operand):SF:=fun _ fr=>obind (obind (evalX c fr) AV.asBool) fun t=>sv (sw t (evalX a fr) (evalX b fr))
def ptrTo (n:Nat):AV:=.ptr (some (n,0))
def newCells (cs:List AV) (e:TypeId):Option Sil:=some (.new (.cells cs e 0 false) ptrTo)
def sAlloc (e:TypeId):SF:=fun E _=>obind (obind (E.ty.get e) TI.zero) fun z=>newCells z.cells e
def sBox (e:TypeId) (x:Operand):SF:=fun _ fr=>obind (evalX x fr) fun v=>newCells v.cells e
def fillOne (cells v:List AV) (q:Nat×Nat):Option (List AV) :=
 grd (band (Nat.beq (llen v) q.2) (Nat.ble (Nat.add q.1 q.2) (llen cells))) (some (putCells v q.1 cells))
def fill (place:Nat→Option (Nat×Nat)) (ps:List (Nat×AV)):List AV→Option (List AV) :=
 @List.rec (Nat×AV) (fun _=>List AV→Option (List AV)) some (fun p _ f cells=>obind (obind (place p.1) (fillOne cells p.2.cells)) f) ps
def fieldPlace (E:Env) (fs:List (Nat×TypeId)) (i:Nat):Option (Nat×Nat):=obind (lget fs i) fun f=>omap (fun z=>(f.1,z)) (sizeT E f.2)
def rowPlace (z i:Nat):Option (Nat×Nat):=some (Nat.mul i z,z)
def buildS (E:Env) (ps:List (Nat×AV)) (z:List AV) (p:List (Nat×TypeId)×Bool):Option AV:=omap .agg (fill (fieldPlace E p.1) ps z)
def buildA (E:Env) (ps:List (Nat×AV)) (z:List AV) (p:Nat×TypeId):Option AV:=obind (sizeT E p.2) fun ez=>omap .agg (fill (rowPlace ez) ps z)
def buildBy (E:Env) (ps:List (Nat×AV)) (z:List AV) (u:UK):Option AV:=oelim u.asStruct (obind u.asArray (buildA E ps z)) (buildS E ps z)
def sBuild (t:TypeId) (parts:Array (Nat×Operand)):SF:=fun E fr =>
 obind (E.ty.get t) fun i=>obind i.zero fun z=>obind (evalParts parts.toList fr) fun ps=>sv (buildBy E ps z.cells i.uk)
def zeroRow (i:TI) (n:Nat):Option (List AV):=sw (Nat.beq (Nat.mul n i.size) 0) (some []) (omap (fun z=>repl z.cells n) i.zero)
def sliceOn (len cap n:Nat):AV:=.slice (some (n,0)) len cap false
def newSlice (len cap:Nat) (e:TypeId) (cs:List AV):Option Sil:=some (.new (.cells cs e 0 false) (sliceOn len cap))
def buildRow (len:Nat) (ps:List (Nat×AV)) (e:TypeId) (j:TI):Option Sil:=grd (Nat.ble (Nat.mul len j.size) 16777216) <| obind (obind (zeroRow j len) (fill (rowPlace j.size) ps)) (newSlice len len e)
def sBuildSlice (t:TypeId) (len:Nat) (parts:Array (Nat×Operand)):SF:=fun E fr =>
 obind (obind (ukT E t) UK.asSlice) fun e=>obind (evalParts parts.toList fr) fun ps=>obind (E.ty.get e) (buildRow len ps e)
def readAt (i:TI) (a:Nat×Nat):Option Sil:=some (.read a.1 (loadObj a.2 i))
def sLoad (t:TypeId) (x:Operand):SF:=fun E fr=>obind (E.ty.get t) fun i=>obind (obind (evalX x fr) AV.asPtr) (readAt i)
def ptrSome (a:Nat×Nat):Option AV:=some (.ptr (some a))
def nilFn (fn:Fn) (a b:List AV):Option AV:=@Fn.rec (fun _=>Option AV) (fun f=>some (.func (.func f) a b)) no1 no2 no4 no1 fn
def nilOk:AV→Option AV:=AV.el no1 no2 no1 (fun a=>obind a ptrSome) no4 no4 no1 nilFn none (fun t v=>some (.iface t v)) none no1 no1
def sNilCheck (x:Operand):SF:=fun _ fr=>sv (obind (evalX x fr) nilOk)
def addV (k:IntKind) (a b:Int):Option AV:=some (.int k (wrapF k (addF a b)))
def subV (k:IntKind) (a b:Int):Option AV:=some (.int k (wrapF k (subF a b)))
def mulV (k:IntKind) (a b:Int):Option AV:=some (.int k (wrapF k (mulF a b)))
def quoV (k:IntKind) (a b:Int):Option AV:=sw (ieq b 0) none (some (.int k (wrapF k (a.tdiv b))))
def remV (k:IntKind) (a b:Int):Option AV:=sw (ieq b 0) none (some (.int k (a.tmod b)))
def bitsV (f:Nat→Nat→Nat) (k:IntKind) (a b:Int):Option AV:=obind (inat a) fun x=>obind (inat b) fun y =>
 grd (band (nlt x (Nat.pow 2 k.bits)) (nlt y (Nat.pow 2 k.bits))) (some (.int k (wrapF k (.ofNat (f x y)))))
def shlV (k:IntKind) (a b:Int):Option AV:=obind (inat b) fun n=>some (.int k (wrapF k (mulF a (.ofNat (Nat.pow 2 (min n k.bits))))))
def shrV (k:IntKind) (a b:Int):Option AV:=obind (inat b) fun n=>some (.int k (a.fdiv (.ofNat (Nat.pow 2 (min n k.bits)))))
def cmpV (f:Int→Int→Bool) (_:IntKind) (a b:Int):Option AV:=some (.bool (f a b))
def intOp (op:BinOp):IntKind→Int→Int→Option AV :=
 @BinOp.rec (fun _=>IntKind→Int→Int→Option AV) addV subV mulV quoV remV (bitsV Nat.land) (bitsV Nat.lor) (bitsV Nat.xor) shlV shrV no3
  (cmpV ieq) (cmpV fun a b=>bnot (ieq a b)) (cmpV ilt) (cmpV ile) (cmpV fun a b=>ilt b a) (cmpV fun a b=>ile b a) op
def isShift (op:BinOp):Bool:=@BinOp.rec (fun _=>Bool) false false false false false false false false true true false false false false false false false op
def strB (f:List UInt8→List UInt8→Bool) (x y:List UInt8):Option AV:=some (.bool (f x y))
def strAdd (x y:List UInt8):Option AV:=grd (Nat.ble (Nat.add (llen x) (llen y)) 9223372036854775807) (some (.str (lapp x y)))
def strOp (op:BinOp):List UInt8→List UInt8→Option AV :=
 @BinOp.rec (fun _=>List UInt8→List UInt8→Option AV) strAdd no2 no2 no2 no2 no2 no2 no2 no2 no2 no2
  (strB eqBytes) (strB fun x y=>bnot (eqBytes x y)) (strB ltBytes) (strB fun x y=>bor (ltBytes x y) (eqBytes x y)) (strB fun x y=>bnot (bor (ltBytes x y) (eqBytes x y))) (strB fun x y=>bnot (ltBytes x y)) op
def addrEq (a b:Nat×Nat):Bool:=band (Nat.beq a.1 b.1) (Nat.beq a.2 b.2)
def eqBool (a:Bool) (y:AV):Option Bool:=omap (beqB a) y.asBool
def eqIntP (k:IntKind) (a:Int) (p:IntKind×Int):Option Bool:=grd (kindEq k p.1) (some (ieq a p.2))
def eqInt (k:IntKind) (a:Int) (y:AV):Option Bool:=obind y.asInt (eqIntP k a)
def eqStr (a:List UInt8) (y:AV):Option Bool:=omap (eqBytes a) y.asStr
def eqPtr2 (a:Nat×Nat) (b:Option (Nat×Nat)):Option Bool:=oelim b (some false) fun b=>grd (addrEq a b) (some true)
def nilB {α:Type} (b:Option α):Option Bool:=some (isNoneB b)
def eqPtr1 (a:Option (Nat×Nat)):Option (Nat×Nat)→Option Bool:=@Option.rec (Nat×Nat) (fun _=>Option (Nat×Nat)→Option Bool) nilB eqPtr2 a
def eqPtr (a:Option (Nat×Nat)):AV→Option Bool:=AV.el no1 no2 no1 (eqPtr1 a) no4 no4 no1 no3 none no2 none no1 no1
def oneNil {α β:Type} (a:Option α) (b:Option β):Option Bool:=oelim a (some (isNoneB b)) fun _=>grd (isNoneB b) (some false)
def eqSlice (a:Option (Nat×Nat)):AV→Option Bool:=AV.el no1 no2 no1 no1 (fun b _ _ _=>oneNil a b) (fun _ _ _ _=>grd (isNoneB a) (some false)) no1 no3 none no2 none no1 no1
def eqSliceE:AV→Option Bool:=AV.el no1 no2 no1 no1 (fun b _ _ _=>grd (isNoneB b) (some false)) no4 no1 no3 none no2 none no1 no1
def eqMap (a:Option Nat):AV→Option Bool:=AV.el no1 no2 no1 no1 no4 no4 (oneNil a) no3 none no2 none no1 no1
def eqNilFunc:AV→Option Bool:=AV.el no1 no2 no1 no1 no4 no4 no1 (fun _ _ _=>some false) (some true) no2 none no1 no1
def eqFunc:AV→Option Bool:=AV.el no1 no2 no1 no1 no4 no4 no1 no3 (some false) no2 none no1 no1
def eqNilIface:AV→Option Bool:=AV.el no1 no2 no1 no1 no4 no4 no1 no3 none (fun _ _=>some false) (some true) no1 no1
def eqIface:AV→Option Bool:=AV.el no1 no2 no1 no1 no4 no4 no1 no3 none no2 (some false) no1 no1
abbrev EqF:=AV→Option Bool
def eqFlat (u:UK) (x:AV):EqF :=
 @UK.rec (fun _=>AV→EqF)
  (AV.el eqBool (fun _ _=>no1) (fun _=>no1) (fun _=>no1) (fun _ _ _ _=>no1) (fun _ _ _ _=>no1) (fun _=>no1) (fun _ _ _=>no1) no1 (fun _ _=>no1) no1 (fun _=>no1) (fun _=>no1))
  (fun _=>AV.el (fun _=>no1) eqInt (fun _=>no1) (fun _=>no1) (fun _ _ _ _=>no1) (fun _ _ _ _=>no1) (fun _=>no1) (fun _ _ _=>no1) no1 (fun _ _=>no1) no1 (fun _=>no1) (fun _=>no1))
  (AV.el (fun _=>no1) (fun _ _=>no1) eqStr (fun _=>no1) (fun _ _ _ _=>no1) (fun _ _ _ _=>no1) (fun _=>no1) (fun _ _ _=>no1) no1 (fun _ _=>no1) no1 (fun _=>no1) (fun _=>no1))
  (fun _=>no1)
  (fun _=>AV.el (fun _=>no1) (fun _ _=>no1) (fun _=>no1) eqPtr (fun _ _ _ _=>no1) (fun _ _ _ _=>no1) (fun _=>no1) (fun _ _ _=>no1) no1 (fun _ _=>no1) no1 (fun _=>no1) (fun _=>no1))
  (fun _=>AV.el (fun _=>no1) (fun _ _=>no1) (fun _=>no1) (fun _=>no1) (fun a _ _ _=>eqSlice a) (fun _ _ _ _=>eqSliceE) (fun _=>no1) (fun _ _ _=>no1) no1 (fun _ _=>no1) no1 (fun _=>no1) (fun _=>no1))
  (fun _ _ _=>no1)
  (fun _ _=>AV.el (fun _=>no1) (fun _ _=>no1) (fun _=>no1) (fun _=>no1) (fun _ _ _ _=>no1) (fun _ _ _ _=>no1) eqMap (fun _ _ _=>no1) no1 (fun _ _=>no1) no1 (fun _=>no1) (fun _=>no1))
  (fun _ _ _=>no1)
  (AV.el (fun _=>no1) (fun _ _=>no1) (fun _=>no1) (fun _=>no1) (fun _ _ _ _=>no1) (fun _ _ _ _=>no1) (fun _=>no1) (fun _ _ _=>eqFunc) eqNilFunc (fun _ _=>no1) no1 (fun _=>no1) (fun _=>no1))
  (fun _=>AV.el (fun _=>no1) (fun _ _=>no1) (fun _=>no1) (fun _=>no1) (fun _ _ _ _=>no1) (fun _ _ _ _=>no1) (fun _=>no1) (fun _ _ _=>no1) no1 (fun _ _=>eqIface) eqNilIface (fun _=>no1) (fun _=>no1))
  (fun _=>no1) u x
abbrev EqR:=TypeId→AV→AV→Option Bool
def eqThen (x y:Option Bool):Option Bool:=obind x fun b=>sw b y (some false)
def eqFields (E:Env) (rec:EqR) (xs ys:List AV) (fs:List (Nat×TypeId)):Option Bool :=
 @List.rec (Nat×TypeId) (fun _=>Option Bool) (some true) (fun f _ r=>eqThen (obind (part E f.2 xs f.1) fun u=>obind (part E f.2 ys f.1) (rec f.2 u)) r) fs
def eqAgg (E:Env) (rec:EqR) (x y:AV) (u:UK):Option Bool:=obind x.asAgg fun xs=>obind y.asAgg fun ys=>obind u.asStruct fun p=>grd p.2 (eqFields E rec xs ys p.1)
def solid (E:Env) (u:UK):Bool:=oelim u.asPtr true fun e=>oelim (sizeT E e) false fun z=>bnot (Nat.beq z 0)
def eqStep (E:Env) (rec:EqR) (x y:AV) (u:UK):Option Bool:=sw u.isAgg (eqAgg E rec x y u) (grd (solid E u) (eqFlat u x y))
def eqA (E:Env) (n:Nat):EqR:=@Nat.rec (fun _=>EqR) no3 (fun _ rec t x y=>obind (ukT E t) (eqStep E rec x y)) n
def eqOp (op:BinOp) (r:Option Bool):Option AV :=
 @BinOp.rec (fun _=>Option Bool→Option AV) no1 no1 no1 no1 no1 no1 no1 no1 no1 no1 no1 (omap .bool) (omap fun b=>.bool (bnot b)) no1 no1 no1 no1 op r
def binII (op:BinOp) (k:IntKind) (a:Int) (p:IntKind×Int):Option AV:=grd (bor (isShift op) (kindEq k p.1)) (intOp op k a p.2)
def binI (op:BinOp) (k:IntKind) (a:Int) (y:AV):Option AV:=obind y.asInt (binII op k a)
def binS (op:BinOp) (a:List UInt8) (y:AV):Option AV:=obind y.asStr (strOp op a)
def isConst (x:Operand):Bool:=@Operand.rec (fun _=>Bool) (fun _=>false) (fun _=>true) (fun _=>false) (fun _=>false) x
def isNilIface:AV→Bool:=AV.el (fun _=>false) (fun _ _=>false) (fun _=>false) (fun _=>false) (fun _ _ _ _=>false) (fun _ _ _ _=>false) (fun _=>false) (fun _ _ _=>false) false (fun _ _=>false) true (fun _=>false) (fun _=>false)
def nilsOk (cst:Bool) (x y:AV):Bool:=bor cst (bnot (band (isNilIface x) (isNilIface y)))
def keyUk (rec:TypeId→Bool) (u:UK):Bool:=@UK.rec (fun _=>(TypeId→Bool)→Bool) (fun _=>true) (fun _ _=>true) (fun _=>true) (fun _=>false) (fun _ _=>false) (fun _ _=>false) (fun _ _ _=>false) (fun _ _ _=>false)
 (fun fs plain rec=>band plain (lall (fun f=>rec f.2) fs)) (fun _=>false) (fun _ _=>false) (fun _=>false) u rec
def keyOk (E:Env) (n:Nat):TypeId→Bool:=@Nat.rec (fun _=>TypeId→Bool) (fun _=>false) (fun _ rec t=>oelim (ukT E t) false (keyUk rec)) n
def fitU (E:Env) (rec:TypeId→AV→Bool) (v:AV) (u:UK):Bool:=oelim u.asStruct true fun p=>oelim v.asAgg false fun cs=>lall (fun f=>oelim (part E f.2 cs f.1) false (rec f.2)) p.1
def fitsA (E:Env) (n:Nat):TypeId→AV→Bool:=@Nat.rec (fun _=>TypeId→AV→Bool) (fun _ _=>false) (fun _ rec t v=>oelim (ukT E t) false (fitU E rec v)) n
def aggOk (E:Env) (t:TypeId) (x:AV):Bool:=bor (isNoneB x.asAgg) (keyOk E 20 t)
def binE (E:Env) (op:BinOp) (t:TypeId) (cst:Bool) (x y:AV):Option AV:=grd (band (aggOk E t x) (nilsOk cst x y)) (eqOp op (eqA E 20 t x y))
def binV (E:Env) (op:BinOp) (t:TypeId) (cst:Bool) (x y:AV):Option AV :=
 AV.el (fun _=>binE E op t cst x y) (fun k a=>binI op k a y) (fun a=>binS op a y) (fun _=>binE E op t cst x y) (fun _ _ _ _=>binE E op t cst x y) (fun _ _ _ _=>binE E op t cst x y)
  (fun _=>binE E op t cst x y) (fun _ _ _=>binE E op t cst x y) (binE E op t cst x y) (fun _ _=>binE E op t cst x y) (binE E op t cst x y) (fun _=>binE E op t cst x y) (fun _=>none) x
def sBin (op:BinOp) (t:TypeId) (x y:Operand) (_:TypeId):SF:=fun E fr =>
 obind (evalX x fr) fun a=>obind (evalX y fr) fun b=>sv (binV E op t (bor (isConst x) (isConst y)) a b)
def negI (p:IntKind×Int):Option AV:=some (.int p.1 (wrapF p.1 (subF 0 p.2)))
def negV (v:AV):Option AV:=obind v.asInt negI
def notV (v:AV):Option AV:=omap (fun b=>.bool (bnot b)) v.asBool
def unV (op:UnOp):AV→Option AV:=@UnOp.rec (fun _=>AV→Option AV) negV no1 notV no1 op
def sUn (op:UnOp) (_:TypeId) (x:Operand):SF:=fun _ fr=>sv (obind (evalX x fr) (unV op))
def cellsFrom (o n:Nat):AObj→Option (List AV):=AObj.el (fun vs _ _ _=>takeCells vs o n) no2 no2
def strOfCells (o n:Nat) (ob:AObj):Option AV:=obind (cellsFrom o n ob) fun cs=>omap .str (bytesOf cs)
def readStr (n:Nat) (a:Nat×Nat):Option Sil:=sw (Nat.beq n 0) (some (.val (.str []))) (some (.read a.1 (strOfCells a.2 n)))
def convStr:AV→Option Sil:=AV.el no1 (fun _ n=>some (.val (.str (Utf8.encode n).data.toList))) (fun b=>some (.val (.str b))) no1 no4 no4 no1 no3 none no2 none no1 no1
def convFromSlice:AV→Option Sil:=AV.el no1 no2 no1 no1 (fun a n _ _=>oelim a (some (.val (.str []))) (readStr n)) (fun _ _ _ _=>some (.val (.str []))) no1 no3 none no2 none no1 no1
def openOn (len n:Nat):AV:=.slice (some (n,0)) len len true
def convBytes (e:TypeId) (v:AV):Option Sil:=obind v.asStr fun b=>some (.new (.cells (lmap byteV b) e 0 true) (openOn (llen b)))
def convInt (k:IntKind) (v:AV):Option Sil:=obind v.asInt fun p=>some (.val (.int k (wrapF k p.2)))
def ptrSeen (a:Nat×Nat):AObj→Option AV:=AObj.el (fun vs _ _ _=>grd (nlt a.2 (llen vs)) (some (.ptr (some a)))) no2 no2
def solidT (E:Env) (t:TypeId):Option Nat:=obind (sizeT E t) fun z=>grd (bnot (Nat.beq z 0)) (some z)
def liesF (E:Env) (rec:TypeId→Nat→Bool) (r:Nat) (f:Nat×TypeId):Bool:=band (Nat.ble f.1 r) (oelim (sizeT E f.2) false fun z=>band (nlt r (Nat.add f.1 z)) (rec f.2 (Nat.sub r f.1)))
def lany {α:Type} (f:α→Bool) (l:List α):Bool:=@List.rec α (fun _=>Bool) false (fun a _ r=>bor (f a) r) l
def liesS (E:Env) (rec:TypeId→Nat→Bool) (r:Nat) (u:UK):Bool:=oelim u.asStruct false fun p=>band p.2 (lany (liesF E rec r) p.1)
def liesStep (E:Env) (u:TypeId) (rec:TypeId→Nat→Bool) (e:TypeId) (r:Nat):Bool:=bor (band (Nat.beq e u) (Nat.beq r 0)) (oelim (ukT E e) false (liesS E rec r))
def liesIn (E:Env) (u:TypeId) (n:Nat):TypeId→Nat→Bool:=@Nat.rec (fun _=>TypeId→Nat→Bool) (fun _ _=>false) (fun _ rec=>liesStep E u rec) n
def wholeIn (E:Env) (u e:TypeId) (o len s:Nat):Bool:=band (liesIn E u 20 e (Nat.mod o s)) (Nat.ble (Nat.mul (Nat.succ (Nat.div o s)) s) len)
def ptrAs (E:Env) (u:TypeId) (a:Nat×Nat):AObj→Option AV :=
 AObj.el (fun vs e _ _=>obind (solidT E e) fun s=>grd (wholeIn E u e a.2 (llen vs) s) (some (.ptr (some a)))) no2 no2
def ptrRead (g:Nat×Nat→AObj→Option AV) (a:Option (Nat×Nat)):Option Sil:=oelim a (some (.val (.ptr none))) fun a=>some (.read a.1 (g a))
def convPtr (g:Nat×Nat→AObj→Option AV):AV→Option Sil:=AV.el no1 no2 no1 (ptrRead g) no4 no4 no1 no3 none no2 none no1 no1
def convUnsafe (E:Env) (a b:UK) (v:AV):Option Sil :=
 oelim a.asPtr (grd a.isUnsafe (obind b.asPtr fun u=>obind (solidT E u) fun _=>convPtr (ptrAs E u) v)) fun t=>grd b.isUnsafe (obind (solidT E t) fun _=>convPtr ptrSeen v)
def byteElem (E:Env) (e:TypeId):Bool:=oelim (E.ty.get e) false fun i=>band i.uk.isByte (Nat.beq i.size 1)
def convToStr (E:Env) (a:UK) (v:AV):Option Sil:=oelim a.asSlice (convStr v) fun e=>grd (byteElem E e) (convFromSlice v)
def convBy (E:Env) (a b:UK) (v:AV):Option Sil :=
 oelim b.asInt (sw b.isStr (convToStr E a v) (oelim b.asSlice (convUnsafe E a b v)
  fun e=>grd (band a.isStr (byteElem E e)) (convBytes e v))) fun k=>convInt k v
def sConvert (src dst:TypeId) (x:Operand):SF:=fun E fr=>obind (evalX x fr) fun v=>obind (ukT E src) fun a=>obind (ukT E dst) fun b=>grd (bnot a.isOther) (convBy E a b v)
def sMakeInterface (t:TypeId) (x:Operand):SF:=fun E fr=>obind (ukT E t) fun u=>grd (bnot (bor u.isIface u.isOther)) (sv (omap (.iface t) (evalX x fr)))
def sMakeFunc (fn:Fn) (first captured:Array Operand):SF:=fun _ fr=>obind (evalAll first.toList fr) fun a=>obind (evalAll captured.toList fr) fun b=>some (.val (.func fn a b))
def mapOn (n:Nat):AV:=.map (some n)
def sMakeMap (_:TypeId) (r:Option Operand):SF:=fun _ _=>grd (isNoneB r) (some (.new (.map [] 0) mapOn))
def makeRow (len cap:Nat) (e:TypeId) (j:TI):Option Sil :=
 grd (band (Nat.ble len cap) (band (Nat.ble cap 1073741824) (Nat.ble (Nat.mul j.bytes cap) 1099511627776))) (obind (zeroRow j cap) (newSlice len cap e))
def sMakeSlice (t:TypeId) (l c:Operand):SF:=fun E fr =>
 obind (obind (ukT E t) UK.asSlice) fun e=>obind (obind (evalX l fr) AV.asNat) fun len=>obind (obind (evalX c fr) AV.asNat) fun cap=>obind (E.ty.get e) (makeRow len cap e)
def boundI (y i:Nat):Option Nat:=grd (Nat.ble i y) (some i)
def bound (y:Nat) (v:AV):Option Nat:=obind v.asNat (boundI y)
def boundOr (d y:Nat) (v:Option AV):Option Nat:=oelim v (some d) (bound y)
def hiOf (len m:Nat) (mx hi:Option AV):Option Nat:=oelim hi (grd (isNoneB mx) (some len)) (bound m)
def withBounds (len cap:Nat) (lo hi mx:Option AV) (f:Nat→Nat→Nat→Option AV):Option AV :=
 obind (boundOr cap cap mx) fun m=>obind (hiOf len m mx hi) fun h=>grd (Nat.ble h m) <| obind (boundOr 0 h lo) fun l=>f l h m
def moved (a:Nat×Nat) (z l m:Nat):Nat×Nat:=sw (Nat.beq m l) a (a.1,Nat.add a.2 (Nat.mul l z))
def closedS (a:Nat×Nat) (z l h m:Nat):Option AV:=some (.slice (some (moved a z l m)) (Nat.sub h l) (Nat.sub m l) false)
def openS (a:Nat×Nat) (z cap l h:Nat):Option AV :=
 sw (bor (nlt l cap) (Nat.beq l 0)) (some (.slice (some (a.1,Nat.add a.2 (Nat.mul l z))) (Nat.sub h l) (Nat.sub cap l) true)) (some (.sliceE a.1 a.2 (Nat.add a.2 (Nat.mul l z)) true))
def nilS (l h m:Nat):Option AV:=some (.slice none (Nat.sub h l) (Nat.sub m l) false)
def sliceAt (z len cap:Nat) (opn:Bool) (lo hi mx:Option AV) (a:Nat×Nat):Option AV :=
 withBounds len cap lo hi mx fun l h m=>sw (band opn (isNoneB mx)) (openS a z cap l h) (closedS a z l h m)
def sliceSl (E:Env) (lo hi mx:Option AV) (u:UK) (a:Option (Nat×Nat)) (len cap:Nat) (opn:Bool):Option AV :=
 obind u.asSlice fun e=>obind (sizeT E e) fun z=>oelim a (withBounds len cap lo hi mx nilS) (sliceAt z len cap opn lo hi mx)
def sliceArr (E:Env) (lo hi mx:Option AV) (u:UK) (a:Option (Nat×Nat)):Option AV :=
 obind a fun a=>obind u.asArray fun p=>obind (sizeT E p.2) fun z=>withBounds p.1 p.1 lo hi mx (closedS a z)
def subStr (b:List UInt8) (l h _:Nat):Option AV:=some (.str (ltake (Nat.sub h l) (ldrop l b)))
def sliceStr (lo hi mx:Option AV) (u:UK) (b:List UInt8):Option AV:=grd (band u.isStr (isNoneB mx)) (withBounds (llen b) (llen b) lo hi none (subStr b))
def emptyOn (n o0 o:Nat) (opn:Bool) (_ _ _:Nat):Option AV:=some (.sliceE n o0 o opn)
def sliceEm (E:Env) (lo hi mx:Option AV) (u:UK) (n o0 o:Nat) (opn:Bool):Option AV :=
 obind u.asSlice fun e=>obind (sizeT E e) fun _=>withBounds 0 0 lo hi mx (emptyOn n o0 o (band opn (isNoneB mx)))
def sliceV (E:Env) (lo hi mx:Option AV) (u:UK):AV→Option AV :=
 AV.el no1 no2 (sliceStr lo hi mx u) (sliceArr E lo hi mx u) (sliceSl E lo hi mx u) (sliceEm E lo hi mx u) no1 no3 none no2 none no1 no1
def sSlice (t:TypeId) (x:Operand) (lo hi mx:Option Operand):SF:=fun E fr =>
 obind (ukT E t) fun u=>obind (evalX x fr) fun v=>obind (evalOpt lo fr) fun l=>obind (evalOpt hi fr) fun h=>obind (evalOpt mx fr) fun m=>sv (sliceV E l h m u v)
def fieldT (E:Env) (t:TypeId) (f:Nat):Option (Nat×TypeId):=obind (obind (ukT E t) UK.asStruct) fun p=>lget p.1 f
def fieldPtr (E:Env) (f:Nat×TypeId) (a:Nat×Nat):Option AV:=obind (sizeT E f.2) fun z=>grd (bnot (Nat.beq z 0)) (some (.ptr (some (a.1,Nat.add a.2 f.1))))
def sFieldAddr (t:TypeId) (x:Operand) (f:Nat):SF:=fun E fr=>obind (fieldT E t f) fun fd=>obind (obind (evalX x fr) AV.asPtr) fun a=>sv (fieldPtr E fd a)
def sField (t:TypeId) (x:Operand) (f:Nat):SF:=fun E fr=>obind (fieldT E t f) fun fd=>obind (obind (evalX x fr) AV.asAgg) fun cs=>sv (part E fd.2 cs fd.1)
def idxPtr (z len q:Nat) (a:Nat×Nat):Option AV:=grd (nlt q len) (some (.ptr (some (a.1,Nat.add a.2 (Nat.mul q z)))))
def idxSl (E:Env) (u:UK) (q:Nat) (a:Option (Nat×Nat)) (len _:Nat) (_:Bool):Option AV:=obind u.asSlice fun e=>obind (sizeT E e) fun z=>obind a (idxPtr z len q)
def idxArr (E:Env) (u:UK) (q:Nat) (a:Option (Nat×Nat)):Option AV:=obind u.asArray fun p=>obind (sizeT E p.2) fun z=>obind a (idxPtr z p.1 q)
def idxV (E:Env) (u:UK) (q:Nat):AV→Option AV:=AV.el no1 no2 no1 (idxArr E u q) (idxSl E u q) no4 no1 no3 none no2 none no1 no1
def sIndexAddr (t:TypeId) (x ix:Operand):SF:=fun E fr=>obind (ukT E t) fun u=>obind (evalX x fr) fun v=>obind (obind (evalX ix fr) AV.asNat) fun q=>sv (idxV E u q v)
def elemAt (E:Env) (u:UK) (q:Nat) (cs:List AV):Option AV:=obind u.asArray fun p=>obind (sizeT E p.2) fun z=>grd (nlt q p.1) (part E p.2 cs (Nat.mul q z))
def charAt (u:UK) (q:Nat) (b:List UInt8):Option AV:=grd u.isStr (omap byteV (lget b q))
def indexV (E:Env) (u:UK) (q:Nat):AV→Option AV:=AV.el no1 no2 (charAt u q) no1 no4 no4 no1 no3 none no2 none (elemAt E u q) no1
def sIndex (t:TypeId) (x ix:Operand):SF:=fun E fr=>obind (ukT E t) fun u=>obind (evalX x fr) fun v=>obind (obind (evalX ix fr) AV.asNat) fun q=>sv (indexV E u q v)
abbrev Ent:=AV×AV×Nat
def findA (E:Env) (t:TypeId) (k:AV) (es:List Ent):Nat→Option (Option (Nat×AV)) :=
 @List.rec Ent (fun _=>Nat→Option (Option (Nat×AV))) (fun _=>some none) (fun e _ f i=>obind (eqA E 20 t k e.1) fun b=>sw b (some (some (i,e.2.1))) (f (Nat.succ i))) es
def mapEs:AObj→Option (List Ent×Nat):=AObj.el no4 mkPair no2
def commaOk (ok:Bool) (v:AV) (b:Bool):AV:=sw ok (.tuple [v,.bool b]) v
def foundOr (E:Env) (et:TypeId) (ok:Bool) (r:Option (Nat×AV)):Option AV:=oelim r (omap (fun z=>commaOk ok z false) (obind (E.ty.get et) TI.zero)) fun p=>some (commaOk ok p.2 true)
def lookupIn (E:Env) (p:TypeId×TypeId) (ok:Bool) (key:AV) (es:List Ent):Option AV:=obind (findA E p.1 key es 0) (foundOr E p.2 ok)
def lookupObj (E:Env) (p:TypeId×TypeId) (ok:Bool) (key:AV) (o:AObj):Option AV:=obind (mapEs o) fun q=>lookupIn E p ok key q.1
def lookupR (E:Env) (p:TypeId×TypeId) (ok:Bool) (key:AV) (r:Option Nat):Option Sil:=oelim r (sv (lookupIn E p ok key [])) fun n=>some (.read n (lookupObj E p ok key))
def sLookup (t:TypeId) (x ix:Operand) (ok:Bool):SF:=fun E fr =>
 obind (obind (ukT E t) UK.asMap) fun p=>grd (keyOk E 20 p.1) (obind (obind (evalX x fr) AV.asMap) fun r=>obind (evalX ix fr) fun key=>grd (fitsA E 20 p.1 key) (lookupR E p ok key r))
def iterOn (n:Nat):AV:=.ptr (some (n,0))
def sRange (t:TypeId) (x:Operand):SF:=fun E fr=>obind (ukT E t) fun u=>grd u.isStr <| obind (obind (evalX x fr) AV.asStr) fun b=>some (.new (.siter b 0) iterOn)
def assertI (asserted:TypeId) (ok:Bool) (z:Option AV) (t:TypeId) (u:AV):Option AV:=sw (Nat.beq t asserted) (some (commaOk ok u true)) (grd ok (omap (fun z=>commaOk true z false) z))
def assertV (asserted:TypeId) (ok:Bool) (z:Option AV):AV→Option AV:=AV.el no1 no2 no1 no1 no4 no4 no1 no3 none (assertI asserted ok z) none no1 no1
def sTypeAssert (x:Operand) (_ asserted:TypeId) (ok:Bool):SF:=fun E fr=>obind (E.ty.get asserted) fun i=>grd (bnot (bor i.uk.isIface i.uk.isOther)) (sv (obind (evalX x fr) (assertV asserted ok i.zero)))
def sExtract (x:Operand) (i:Nat):SF:=fun _ fr=>sv (obind (obind (evalX x fr) AV.asTuple) fun vs=>lget vs i)
def lenInt (n:Nat):AV:=.int .i64 (.ofNat n)
def mapLen (o:AObj):Option AV:=omap (fun p=>lenInt (llen p.1)) (mapEs o)
def mapLenR (r:Option Nat):Option Sil:=oelim r (some (.val (lenInt 0))) fun n=>some (.read n mapLen)
def lenSl (u:UK) (n:Nat):Option Sil:=grd (bnot (isNoneB u.asSlice)) (some (.val (lenInt n)))
def lenV (u:UK):AV→Option Sil:=AV.el no1 no2 (fun b=>grd u.isStr (some (.val (lenInt (llen b))))) no1 (fun _ n _ _=>lenSl u n) (fun _ _ _ _=>lenSl u 0) (fun r=>grd (bnot (isNoneB u.asMap)) (mapLenR r)) no3 none no2 none no1 no1
def capV (u:UK):AV→Option AV:=AV.el no1 no2 no1 no1 (fun _ _ c o=>grd (band (bnot o) (bnot (isNoneB u.asSlice))) (some (lenInt c))) no4 no1 no3 none no2 none no1 no1
def minP (a b:IntKind×Int):Option AV:=some (.int a.1 (sw (ilt b.2 a.2) b.2 a.2))
def maxP (a b:IntKind×Int):Option AV:=some (.int a.1 (sw (ilt a.2 b.2) b.2 a.2))
def two (f:IntKind×Int→IntKind×Int→Option AV) (args:List AV):Option AV :=
 grd (Nat.beq (llen args) 2) (obind (obind (lget args 0) AV.asInt) fun a=>obind (obind (lget args 1) AV.asInt) (f a))
def dataOf (a:Option (Nat×Nat)) (_ c:Nat) (_:Bool):Option AV:=oelim a (some (.ptr none)) fun a=>grd (nlt 0 c) (some (.ptr (some a)))
def sliceDataV:AV→Option AV:=AV.el no1 no2 no1 no1 dataOf no4 no1 no3 none no2 none no1 no1
abbrev BF:=Env→List TypeId→List AV→Option Sil
def ukArg (E:Env) (ts:List TypeId):Option UK:=obind (lget ts 0) (ukT E)
def bsLen:BF:=fun E ts args=>obind (ukArg E ts) fun u=>obind (lget args 0) (lenV u)
def bsCap:BF:=fun E ts args=>obind (ukArg E ts) fun u=>sv (obind (lget args 0) (capV u))
def bsMax:BF:=fun _ _ args=>sv (two maxP args)
def bsMin:BF:=fun _ _ args=>sv (two minP args)
def bsData:BF:=fun _ _ args=>grd (Nat.beq (llen args) 1) (sv (obind (lget args 0) sliceDataV))
def bsLoud:BF:=fun _ _ _=>some .loud
def builtinS (b:Builtin):BF:=@Builtin.rec (fun _=>BF) bsLoud bsCap bsLoud bsLoud bsLoud bsLoud bsLoud bsLoud bsLen bsLoud bsMax bsMin bsLoud bsLoud bsLoud bsLoud bsLoud bsLoud
 bsLoud bsLoud bsData bsLoud bsLoud bsLoud bsLoud bsLoud b
abbrev CF:=List TypeId→List Operand→SF
def csLoud:CF:=fun _ _ _ _=>some .loud
def csBuiltin (b:Builtin):CF:=fun ts xs E fr=>obind (evalAll xs fr) (builtinS b E ts)
def calleeS (c:Callee):CF:=@Callee.rec (fun _=>CF) (fun _=>csLoud) (fun _ _=>csLoud) csBuiltin c
def sCall (c:Call):SF:=calleeS c.callee c.argTypes.toList c.args.toList
def sLoud:SF:=fun _ _=>some .loud
def sNo:SF:=fun _ _=>none
def silF (o:Op):SF:=@Op.rec (fun _=>SF) sMove (fun _=>sLoud) sPick sAlloc sBox sBuild sBuildSlice (fun _ _ _ _=>sLoud) sLoad (fun _ _ _=>sLoud) (fun _=>sNo) (fun _=>sNo) sNilCheck sBin sUn sConvert (fun _ _=>sNo)
 sMakeInterface sMakeFunc sMakeMap (fun _ _=>sNo) sMakeSlice sSlice sFieldAddr sField sIndexAddr sIndex sLookup (fun _ _ _ _=>sLoud) (fun _ _ _=>sNo) (fun _ _ _ _=>sNo) sRange (fun _ _=>sLoud) (fun _=>sNo) sTypeAssert sExtract sCall
 (fun _=>sNo) (fun _=>sLoud) (fun _=>sNo) (fun _ _=>sNo) (fun _ _ _=>sNo) (fun _ _=>sNo) o
abbrev LF:=Env→Mem→Fr→St→Option Nx
def lAssign (x:Operand):LF:=fun _ _ fr s=>omap (fun v=>.val v s) (evalX x fr)
def undefNx (s:St):Nx:=.val undefA s
def storeV (E:Env) (t:TypeId) (v:List AV) (s:St) (a:Nat×Nat):Option Nx:=obind (sizeT E t) fun z=>grd (Nat.beq (llen v) z) (omap undefNx (storeAt a v s))
def lStore (t:TypeId) (x y:Operand):LF:=fun E _ fr s=>obind (evalX y fr) fun v=>obind (obind (evalX x fr) AV.asPtr) (storeV E t v.cells s)
def sameFlat (x y:AV):Bool:=AV.el (fun a=>oelim y.asBool false (beqB a)) (fun k a=>oelim y.asInt false fun p=>band (kindEq k p.1) (ieq a p.2)) (fun a=>oelim y.asStr false (eqBytes a)) (fun _=>false) (fun _ _ _ _=>false) (fun _ _ _ _=>false)
 (fun _=>false) (fun _ _ _=>false) false (fun _ _=>false) false (fun _=>false) (fun _=>false) x
def sameCells (x:List AV):List AV→Bool:=@List.rec AV (fun _=>List AV→Bool) isNilB (fun a _ f y=>lcase y false fun b bs=>band (sameFlat a b) (f bs)) x
def sameBits (x y:AV):Bool:=oelim x.asAgg (sameFlat x y) fun xs=>oelim y.asAgg false (sameCells xs)
def setEntry (es:List Ent) (x:Ent) (q:Nat):List Ent:=lapp (ltake q es) (x :: ldrop (Nat.succ q) es)
def updFound (key x:AV) (s:St) (r:Nat) (p:List Ent×Nat) (q:Nat×AV):Option Nx :=
 obind (lget p.1 q.1) fun e=>grd (sameBits e.1 key) (some (undefNx (setObj s r (.map (setEntry p.1 (key,x,e.2.2) q.1) p.2))))
def updNew (key x:AV) (s:St) (r:Nat) (p:List Ent×Nat):Option Nx:=some (undefNx (setObj s r (.map (lapp p.1 [(key,x,p.2)]) (Nat.succ p.2))))
def updBy (E:Env) (kt:TypeId) (key x:AV) (s:St) (r:Nat) (p:List Ent×Nat):Option Nx:=obind (findA E kt key p.1 0) fun f=>oelim f (updNew key x s r p) (updFound key x s r p)
def lMapUpdate (t:TypeId) (m k x:Operand):LF:=fun E _ fr s =>
 obind (obind (ukT E t) UK.asMap) fun p=>grd (keyOk E 20 p.1) (obind (obind (obind (evalX m fr) AV.asMap) optIdN) fun r=>obind (evalX k fr) fun key=>grd (fitsA E 20 p.1 key) <| obind (evalX x fr) fun v=>obind (obind (s.H.get r) mapEs) (updBy E p.1 key v s r))
def nextIn (s:St) (r:Nat) (b:List UInt8) (pos:Nat):Option Nx :=
 sw (nlt pos (llen b)) (some (.val (.tuple [.bool true,lenInt pos,.int .i32 (.ofNat (Utf8.decode ⟨⟨b⟩⟩ pos).1)]) (setObj s r (.siter b (Nat.add pos (Utf8.decode ⟨⟨b⟩⟩ pos).2))))) (some (.val (.tuple [.bool false]) s))
def nextObj (s:St) (r:Nat):AObj→Option Nx:=AObj.el no4 no2 (nextIn s r)
def lNext (it:Operand) (isString:Bool):LF:=fun _ _ fr s=>grd isString (obind (obind (evalX it fr) AV.asPtr) fun a=>grd (Nat.beq a.2 0) (obind (s.H.get a.1) (nextObj s a.1)))
def cellsOn (K:Mem) (s:St) (m:Nat) (a:Nat×Nat):Option (List AV):=sw (Nat.beq m 0) (some []) (obind (look K s a.1) (cellsFrom a.2 m))
def firstCells (K:Mem) (s:St) (size n:Nat):AV→Option (List AV) :=
 AV.el no1 no2 (fun b=>some (lmap byteV (ltake n b))) no1 (fun a _ _ _=>oelim a (some []) (cellsOn K s (Nat.mul n size))) (fun _ _ _ _=>grd (Nat.beq (Nat.mul n size) 0) (some [])) no1 no3 none no2 none no1 no1
def lenOf:AV→Option Nat:=AV.el no1 no2 (fun b=>some (llen b)) no1 (fun _ n _ _=>some n) (fun _ _ _ _=>some 0) no1 no3 none no2 none no1 no1
def grownNew (e:TypeId) (all:List AV) (need:Nat) (s:St):Option Nx:=some (.val (openOn need s.k) (newSt (.cells all e 0 false) s))
def grownOpen (e:TypeId) (all:List AV) (need lo cap z:Nat) (s:St) (a:Nat×Nat):AObj→Option Nx :=
 AObj.el (fun vs oe frz sh=>grd (band (Nat.beq oe e) (band (Nat.beq (Nat.mod a.2 z) 0) (band (Nat.ble frz (Nat.add a.2 lo)) (Nat.beq (Nat.add a.2 (Nat.mul cap z)) (llen vs)))))
  (some (.val (openOn need s.k) ⟨(s.H.erase a.1).set s.k (.cells all e (Nat.sub frz a.2) sh),Nat.succ s.k⟩))) no2 no2
def growTo (e:TypeId) (all:List AV) (need lo cap z:Nat) (opn:Bool) (s:St) (base:Option (Nat×Nat)):Option Nx :=
 oelim base (grownNew e all need s) fun a=>sw opn (obind (s.H.get a.1) (grownOpen e all need lo cap z s a)) (grownNew e all need s)
def inPlace (base:Option (Nat×Nat)) (need len cap z:Nat) (opn:Bool) (new:List AV) (s:St):Option Nx :=
 oelim base (some (.val (.slice none need cap opn) s)) fun a=>omap (fun s=>.val (.slice base need cap opn) s) (storeAt (a.1,Nat.add a.2 (Nat.mul len z)) new s)
def appendTo (K:Mem) (e:TypeId) (j:TI) (new:List AV) (n:Nat) (s:St) (base:Option (Nat×Nat)) (len cap:Nat) (opn:Bool):Option Nx :=
 sw (Nat.ble (Nat.add len n) cap) (inPlace base (Nat.add len n) len cap j.size opn new s)
  (grd (band (bnot (isNoneB j.zero)) (Nat.ble (Nat.mul (Nat.add len n) (Nat.succ j.bytes)) 1099511627776))
     (obind (firstCells K s j.size len (.slice base len cap opn)) fun old=>growTo e (lapp old new) (Nat.add len n) (Nat.mul len j.size) cap j.size opn s base))
def appendV (K:Mem) (e:TypeId) (j:TI) (new:List AV) (n:Nat) (s:St):AV→Option Nx :=
 AV.el no1 no2 no1 no1 (appendTo K e j new n s) (fun m o0 o opn=>grd (Nat.beq n 0) (some (.val (.sliceE m o0 o opn) s))) no1 no3 none no2 none no1 no1
def zerosOf (E:Env) (t:Option TypeId):Option Bool:=oelim t (some false) fun t=>obind (ukT E t) fun u=>grd (bor (bnot (isNoneB u.asInt)) (bor u.isStr (bnot (isNoneB u.asSlice)))) (some (bnot (isNoneB u.asInt)))
def appendCount (zeros:Bool) (x:AV):Option Nat:=sw zeros (obind x.asNat (boundI 1073741824)) (lenOf x)
def appendNew (K:Mem) (s:St) (zeros:Bool) (j:TI) (n:Nat) (x:AV):Option (List AV):=sw zeros (zeroRow j n) (firstCells K s j.size n x)
abbrev BL:=List TypeId→List AV→Env→Mem→St→Option Nx
def elemT (E:Env) (ts:List TypeId):Option TypeId:=obind (obind (lget ts 0) (ukT E)) UK.asSlice
def bAppend:BL:=fun ts args E K s =>
 obind (elemT E ts) fun e=>obind (E.ty.get e) fun j=>obind (zerosOf E (lget ts 1)) fun zeros=>obind (lget args 1) fun x=>obind (appendCount zeros x) fun n =>
 obind (appendNew K s zeros j n x) fun new=>grd (band (band (lall AV.one new) (Nat.beq (llen new) (Nat.mul n j.size))) (bor (bnot zeros) (Nat.ble (Nat.mul n j.bytes) 1099511627776))) <| obind (lget args 0) (appendV K e j new n s)
def copyTo (K:Mem) (z:Nat) (x:AV) (sl:Nat) (s:St) (base:Option (Nat×Nat)) (dl _:Nat) (_:Bool):Option Nx :=
 obind (firstCells K s z (min sl dl) x) fun cs=>oelim base (some (.val (lenInt (min sl dl)) s)) fun a=>omap (fun s=>.val (lenInt (min sl dl)) s) (storeAt a cs s)
def copyV (K:Mem) (z:Nat) (x:AV) (sl:Nat) (s:St):AV→Option Nx:=AV.el no1 no2 no1 no1 (copyTo K z x sl s) (fun _ _ _ _=>some (.val (lenInt 0) s)) no1 no3 none no2 none no1 no1
def bCopy:BL:=fun ts args E K s=>obind (obind (elemT E ts) (sizeT E)) fun z=>obind (lget args 1) fun x=>obind (lenOf x) fun sl=>obind (lget args 0) (copyV K z x sl s)
def freezeObj (u:TypeId) (s:St) (a:Nat×Nat) (n:Nat):AObj→Option Nx :=
 AObj.el (fun vs e frz sh=>grd (band (bnot sh) (Nat.beq e u)) (obind (obind (takeCells vs a.2 n) bytesOf) fun bs=>some (.val (.str bs) (setObj s a.1 (.cells vs e (max frz (Nat.add a.2 n)) false))))) no2 no2
def strAt (u:TypeId) (s:St) (n:Nat) (p:Option (Nat×Nat)):Option Nx:=sw (Nat.beq n 0) (some (.val (.str []) s)) (obind p fun a=>obind (s.H.get a.1) (freezeObj u s a n))
def bUnsafeString:BL:=fun ts args E _ s=>obind (obind (obind (lget ts 0) (ukT E)) UK.asPtr) fun u=>grd (band (Nat.beq (llen args) 2) (byteElem E u)) <| obind (obind (lget args 1) AV.asNat) fun n=>grd (Nat.ble n 9223372036854775807) <| obind (lget args 0) (AV.el no1 no2 no1 (strAt u s n) no4 no4 no1 no3 none no2 none no1 no1)
def bNo:BL:=fun _ _ _ _ _=>none
def builtinL (b:Builtin):BL:=@Builtin.rec (fun _=>BL) bAppend bNo bNo bNo bNo bCopy bNo bNo bNo bNo bNo bNo bNo bNo bNo bNo bNo bNo bNo bNo bNo bUnsafeString bNo bNo bNo bNo b
abbrev XF:=List AV→Env→Mem→St→Option Nx
def args1 (args:List AV) (f:AV→Option Nx):Option Nx:=grd (Nat.beq (llen args) 1) (obind (lget args 0) f)
def args2 (args:List AV) (f:AV→AV→Option Nx):Option Nx:=grd (Nat.beq (llen args) 2) (obind (lget args 0) fun a=>obind (lget args 1) (f a))
def args3 (args:List AV) (f:AV→AV→AV→Option Nx):Option Nx:=grd (Nat.beq (llen args) 3) (obind (lget args 0) fun a=>obind (lget args 1) fun b=>obind (lget args 2) (f a b))
def indexOfB (c:UInt8) (b:List UInt8):Nat→Option Nat:=@List.rec UInt8 (fun _=>Nat→Option Nat) (fun _=>none) (fun u _ f i=>sw (beqByte u c) (some i) (f (Nat.succ i))) b
def strByte (a b:AV) (f:List UInt8→UInt8→Nx):Option Nx:=obind a.asStr fun s=>obind (byteOf b) fun c=>some (f s c)
def xIndexByte:XF:=fun args _ _ s=>args2 args fun a b=>strByte a b fun l c=>.val (.int .i64 (oelim (indexOfB c l 0) (.negSucc 0) Int.ofNat)) s
def countB (c:UInt8) (b:List UInt8):Nat:=@List.rec UInt8 (fun _=>Nat) 0 (fun u _ n=>sw (beqByte u c) (Nat.succ n) n) b
def xCount:XF:=fun args _ _ s=>args2 args fun a b=>strByte a b fun l c=>.val (lenInt (countB c l)) s
def xCmp:XF:=fun args _ _ s=>args2 args fun a b=>obind a.asStr fun a=>obind b.asStr fun b =>
 some (.val (.int .i64 (sw (ltBytes a b) (.negSucc 0) (sw (ltBytes b a) (.ofNat 1) (.ofNat 0)))) s)
def xSame:XF:=fun args _ _ s=>args1 args fun v=>some (.val v s)
def xMark (adr:Bool):XF:=fun args _ _ s=>sw adr (obind (obind (lget args 0) AV.asPtr) fun _=>some (.val (.tuple []) s)) (some (.val (.tuple []) s))
def intIn (k:IntKind) (p:IntKind×Int):Option Int:=grd (kindEq k p.1) (some p.2)
def intAt (k:IntKind) (off:Nat):AObj→Option Int:=AObj.el (fun vs _ _ _=>obind (obind (lget vs off) AV.asInt) (intIn k)) no2 no2
def intAtW (k:IntKind) (off:Nat):AObj→Option Int:=AObj.el (fun vs _ frz _=>grd (Nat.ble frz off) (obind (obind (lget vs off) AV.asInt) (intIn k))) no2 no2
def xAtomLoad (k:IntKind):XF:=fun args _ K s=>args1 args fun p=>obind p.asPtr fun a=>obind (obind (look K s a.1) (intAt k a.2)) fun n=>some (.val (.int k n) s)
def xAtomStore:XF:=fun args _ _ s=>args2 args fun p v=>obind p.asPtr fun a=>omap (fun s=>.val (.tuple []) s) (storeAt a [v] s)
def casTo (a:Nat×Nat) (v:AV) (s:St) (same:Bool):Option Nx:=sw same (omap (fun s=>.val (.bool true) s) (storeAt a [v] s)) (some (.val (.bool false) s))
def xAtomCas (k:IntKind):XF:=fun args _ _ s=>args3 args fun p o v=>obind p.asPtr fun a=>obind o.asInt fun o =>
 obind (obind (s.H.get a.1) (intAtW k a.2)) fun n=>casTo a v s (ieq n o.2)
def xAtomAdd (k:IntKind):XF:=fun args _ _ s=>args2 args fun p d=>obind p.asPtr fun a=>obind d.asInt fun d=>grd (kindEq k d.1) <| obind (obind (s.H.get a.1) (intAtW k a.2)) fun n =>
 omap (fun s=>.val (.int k (wrapF k (addF n d.2))) s) (storeAt a [.int k (wrapF k (addF n d.2))] s)
def xMakeNoZero (e:TypeId):XF:=fun args _ _ s=>args1 args fun v=>obind v.asInt fun p=>grd (kindEq p.1 .i64) <| obind (inat p.2) fun n=>grd (Nat.ble n 1073741824) (some (.val (.slice (some (s.k,0)) n 0 true) (newSt (.cells [] e 0 false) s)))
def asSlice4:AV→Option (Option (Nat×Nat)×Nat×Nat×Bool):=AV.el no1 no2 no1 no1 (fun a l c o=>some (a,l,c,o)) no4 no1 no3 none no2 none no1 no1
def isI0 (v:AV):Bool:=oelim v.asInt false fun p=>band (kindEq p.1 .i64) (ieq p.2 0)
def cellsFull (e:TypeId) (n:Nat):AObj→Option (List AV):=AObj.el (fun vs oe frz sh=>grd (band (Nat.beq oe e) (band (Nat.beq frz 0) (band (bnot sh) (Nat.beq (llen vs) n)))) (some vs)) no2 no2
def ins1 (d v:Nat×Nat×Bool) (a b:Nat×Nat):Bool:=band (Nat.beq d.1 1) (band (Nat.beq d.2.1 1) (band d.2.2 (band (Nat.beq a.2 0) (band (Nat.beq v.1 1) (bnot (Nat.beq a.1 b.1))))))
def xInsert (e:TypeId):XF:=fun args E K s=>args3 args fun d i v=>obind (E.ty.get e) fun j=>obind (asSlice4 d) fun d=>obind (asSlice4 v) fun v=>obind d.1 fun a=>obind v.1 fun b =>
 grd (band (isI0 i) (ins1 d.2 v.2 a b)) (obind (obind (s.H.get a.1) (cellsFull e j.size)) fun old=>obind (cellsOn K s j.size b) fun new =>
  grd (band (lall AV.one new) (lall AV.one old)) (some (.val (openOn 2 s.k) ⟨(s.H.erase a.1).set s.k (.cells (lapp new old) e 0 false),Nat.succ s.k⟩)))
def prefB (x:List UInt8):List UInt8→Bool:=@List.rec UInt8 (fun _=>List UInt8→Bool) (fun _=>true) (fun a _ f y=>lcase y false fun b bs=>band (beqByte a b) (f bs)) x
def indexFrom (sub l:List UInt8):Nat→Option Nat:=@List.rec UInt8 (fun _=>Nat→Option Nat) (fun k=>sw (isNilB sub) (some k) none) (fun b l f k=>sw (prefB sub (b :: l)) (some k) (f (Nat.succ k))) l
def intCell:AObj→Option Int:=intAt .i64 0
def xIndex (g:Nat):XF:=fun args _ K s=>args2 args fun a b=>obind a.asStr fun l=>obind b.asStr fun sub=>grd (nlt (llen l) 4294967281) (obind (obind (look K s g) intCell) fun _ =>
 some (.val (.int .i64 (oelim (indexFrom sub l 0) (.negSucc 0) Int.ofNat)) s))
def extF (x:Ext):XF:=@Ext.rec (fun _=>XF) xIndexByte xCount xCmp xSame xMark xAtomLoad xAtomStore xAtomCas xAtomAdd xInsert xMakeNoZero xIndex x
def enterNx (f:FuncId) (args:List AV) (s:St):Option Nx:=some (.call f args s)
def callFn (f:FuncId) (args:List AV) (E:Env) (K:Mem) (s:St):Option Nx:=oelim (E.ext.get f) (enterNx f args s) fun x=>oelim (extF x args E K s) (enterNx f args s) some
def fnId (fn:Fn):Option FuncId:=@Fn.rec (fun _=>Option FuncId) some no1 no2 no4 no1 fn
def callV (args:List AV) (E:Env) (K:Mem) (s:St) (fn:Fn) (first captured:List AV):Option Nx:=obind (fnId fn) fun f=>callFn f (lapp first (lapp args captured)) E K s
def callA (args:List AV) (E:Env) (K:Mem) (s:St):AV→Option Nx:=AV.el no1 no2 no1 no1 no4 no4 no1 (callV args E K s) none no2 none no1 no1
def methOk (ptrRecv:Bool) (u:UK):Bool:=sw ptrRecv (bnot (isNoneB u.asPtr)) (isNoneB u.asPtr)
def strEq (a b:String):Bool:=a == b
def invokeI (name:String) (args:List AV) (E:Env) (K:Mem) (s:St) (t:TypeId) (u:AV):Option Nx :=
 obind (E.ty.get t) fun i=>obind (lfind (fun m=>strEq m.1 name) i.methods) fun m=>obind m.2 fun q=>grd (band (methOk q.2 i.uk) (bnot (bor i.uk.isIface i.uk.isOther))) (callFn q.1 (u :: args) E K s)
def invokeV (name:String) (args:List AV) (E:Env) (K:Mem) (s:St):AV→Option Nx:=AV.el no1 no2 no1 no1 no4 no4 no1 no3 none (invokeI name args E K s) none no1 no1
def calleeL (c:Callee):List TypeId→List Operand→LF:=@Callee.rec (fun _=>List TypeId→List Operand→LF)
 (fun f _ xs E K fr s=>obind (evalAll xs fr) fun args=>obind (evalX f fr) (callA args E K s))
 (fun r name _ xs E K fr s=>obind (evalAll xs fr) fun args=>obind (evalX r fr) (invokeV name args E K s))
 (fun b ts xs E K fr s=>obind (evalAll xs fr) fun args=>builtinL b ts args E K s) c
def lCall (c:Call):LF:=calleeL c.callee c.argTypes.toList c.args.toList
def deferV (args:List AV) (s:St) (fn:Fn) (first captured:List AV):Option Nx:=omap (fun f=>.defer f (lapp first (lapp args captured)) s) (fnId fn)
def calleeD (c:Callee):Option Operand:=@Callee.rec (fun _=>Option Operand) some no2 no1 c
def lDefer (c:Call):LF:=fun _ _ fr s=>obind (calleeD c.callee) fun f=>obind (evalAll c.args.toList fr) fun args=>obind (evalX f fr) (AV.el no1 no2 no1 no1 no4 no4 no1 (deferV args s) none no2 none no1 no1)
def lNo:LF:=fun _ _ _ _=>none
def loudF (o:Op):LF:=@Op.rec (fun _=>LF) (fun _=>lNo) lAssign (fun _ _ _=>lNo) (fun _=>lNo) (fun _ _=>lNo) (fun _ _=>lNo) (fun _ _ _=>lNo) lMapUpdate (fun _ _=>lNo) lStore (fun _=>lNo) (fun _=>lNo) (fun _=>lNo) (fun _ _ _ _ _=>lNo) (fun _ _ _=>lNo) (fun _ _ _=>lNo) (fun _ _=>lNo)
 (fun _ _=>lNo) (fun _ _ _=>lNo) (fun _ _=>lNo) (fun _ _=>lNo) (fun _ _ _=>lNo) (fun _ _ _ _ _=>lNo) (fun _ _ _=>lNo) (fun _ _ _=>lNo) (fun _ _ _=>lNo) (fun _ _ _=>lNo) (fun _ _ _ _=>lNo) lMapUpdate (fun _ _ _=>lNo) (fun _ _ _ _=>lNo) (fun _ _=>lNo) lNext (fun _=>lNo) (fun _ _ _ _=>lNo) (fun _ _=>lNo) lCall
 (fun _=>lNo) lDefer (fun _=>lNo) (fun _ _=>lNo) (fun _ _ _=>lNo) (fun _ _=>lNo) o
def yieldV (v:AV):Option Bool:=v.asBool
def yieldedBy (fr:Fr) (d:Option Tmp):Option Bool:=obind (obind d fun t=>fr.tmps.get t) yieldV
def yieldedA (all:List Oper) (fr:Fr) (j:Nat):Option Bool:=obind (lget all j) fun o=>yieldedBy fr o.dst
def wantedA (all:List Oper) (fr:Fr) (g:Option (Nat×Bool)):Bool:=oelim g true fun g=>oelim (yieldedA all fr g.1) false (beqB g.2)
abbrev Rec:=Task→Option Res
abbrev FS:=Fr×St
def okPut (d:Option Tmp) (fr:Fr) (s:St) (v:AV):Option FS:=omap (fun fr=>(fr,s)) (putD d v fr)
def afterCall (d:Option Tmp) (fr:Fr) (r:Res):Option FS:=@Res.rec (fun _=>Option FS) no3 (fun v s=>okPut d fr s v) r
def afterNx (rec:Rec) (K:Mem) (d:Option Tmp) (fr:Fr) (x:Nx):Option FS:=@Nx.rec (fun _=>Option FS) (fun v s=>okPut d fr s v) (fun f args s=>obind (rec (.call K f args s)) (afterCall d fr))
 (fun f args s=>okPut d ⟨fr.n,fr.gl,fr.tmps,(f,args) :: fr.defs⟩ s undefA) x
def afterSil (E:Env) (rec:Rec) (K:Mem) (o:Oper) (fr:Fr) (s:St) (x:Sil):Option FS:=@Sil.rec (fun _=>Option FS) (okPut o.dst fr s) (fun n g=>obind (obind (look K s n) g) (okPut o.dst fr s))
 (fun ob mk=>okPut o.dst fr (newSt ob s) (mk s.k)) (obind (loudF o.op E K fr s) (afterNx rec K o.dst fr)) x
def runOp (E:Env) (rec:Rec) (K:Mem) (all:List Oper) (o:Oper) (fr:Fr) (s:St):Option FS :=
 sw (wantedA all fr o.guard) (obind (silF o.op E fr) (afterSil E rec K o fr s)) (okPut o.dst fr s undefA)
def runOps (E:Env) (rec:Rec) (K:Mem) (all:List Oper) (l:List Oper):Fr→St→Option FS :=
 @List.rec Oper (fun _=>Fr→St→Option FS) (fun fr s=>some (fr,s)) (fun o _ f fr s=>obind (runOp E rec K all o fr s) fun p=>f p.1 p.2) l
structure PE where
 idx:Nat
 op:Oper
 pre:Nat
 anc:Nat
structure Pend where
 idx:Nat
 rd:Option Nat
 nw:Option Nat
def bindsB (e:Edge):Bool:=@Ground.rec (fun _=>Bool) true true true true (fun _=>false) (fun _=>false) e.ground
def inMask (m i:Nat):Bool:=Nat.beq (Nat.land (Nat.shiftRight m i) 1) 1
def subMask (a b:Nat):Bool:=Nat.beq (Nat.land a b) a
def bitOf (i:Nat):Nat:=Nat.pow 2 i
def preOf (es:List Edge):Nat:=@List.rec Edge (fun _=>Nat) 0 (fun e _ r=>sw (bindsB e) (Nat.lor (bitOf e.on) r) r) es
def ancOf (acc:List Nat) (es:List Edge):Nat:=@List.rec Edge (fun _=>Nat) 0 (fun e _ r=>sw (bindsB e) (Nat.lor (Nat.lor (bitOf e.on) (oelim (lget acc e.on) 0 fun m=>m)) r) r) es
def entriesFrom (ops:List Oper):List Nat→List PE :=
 @List.rec Oper (fun _=>List Nat→List PE) (fun _=>[]) (fun o _ f acc=>⟨llen acc,o,preOf o.after.toList,ancOf acc o.after.toList⟩ :: f (lapp acc [ancOf acc o.after.toList])) ops
def entries (ops:List Oper):List PE:=entriesFrom ops []
def loudB (b:Builtin):Bool:=@Builtin.rec (fun _=>Bool) true false true true true true true true false true false false true true true true true true true true false true true true true true b
def loudC (c:Callee):Bool:=@Callee.rec (fun _=>Bool) (fun _=>true) (fun _ _=>true) loudB c
def loudOp (o:Op):Bool:=@Op.rec (fun _=>Bool) (fun _=>false) (fun _=>true) (fun _ _ _=>false) (fun _=>false) (fun _ _=>false) (fun _ _=>false) (fun _ _ _=>false) (fun _ _ _ _=>true) (fun _ _=>false) (fun _ _ _=>true) (fun _=>true) (fun _=>true) (fun _=>false)
 (fun _ _ _ _ _=>false) (fun _ _ _=>false) (fun _ _ _=>false) (fun _ _=>true) (fun _ _=>false) (fun _ _ _=>false) (fun _ _=>false) (fun _ _=>true) (fun _ _ _=>false) (fun _ _ _ _ _=>false) (fun _ _ _=>false) (fun _ _ _=>false)
 (fun _ _ _=>false) (fun _ _ _=>false) (fun _ _ _ _=>false) (fun _ _ _ _=>true) (fun _ _ _=>true) (fun _ _ _ _=>true) (fun _ _=>false) (fun _ _=>true) (fun _=>true) (fun _ _ _ _=>false) (fun _ _=>false) (fun c=>loudC c.callee)
 (fun _=>true) (fun _=>true) (fun _=>true) (fun _ _=>true) (fun _ _ _=>true) (fun _ _=>true) o
def PE.loud (p:PE):Bool:=loudOp p.op.op
def PE.ready (L:Nat) (p:PE):Bool:=band (bnot (inMask L p.idx)) (subMask p.pre L)
def pickNext (es:List PE) (L:Nat):Option PE:=oelim (lfind (fun p=>band (bnot p.loud) (p.ready L)) es) (lfind (PE.ready L) es) some
def planFrom (es:List PE) (n:Nat):Nat→List PE:=@Nat.rec (fun _=>Nat→List PE) (fun _=>[]) (fun _ f L=>oelim (pickNext es L) [] fun p=>p :: f (Nat.lor L (bitOf p.idx))) n
def plan (ops:List Oper):List PE:=planFrom (entries ops) (llen ops) 0
structure PS where
 e:PE
 duo:Option PE
def duoWith (L:Nat) (p q:PE):Option PE:=grd (band p.loud (band q.loud (q.ready L))) (some q)
def stepsFrom (ps:List PE):Nat→List PS :=
 @List.rec PE (fun _=>Nat→List PS) (fun _=>[]) (fun p rest f L=>⟨p,lcase rest none fun q _=>duoWith L p q⟩ :: f (Nat.lor L (bitOf p.idx))) ps
def steps (ops:List Oper):List PS:=stepsFrom (plan ops) 0
def onlyReady (es:List PE) (L a b:Nat):Bool:=lall (fun q=>bor (Nat.beq q.idx a) (bor (Nat.beq q.idx b) (bnot (q.ready L)))) es
def stepOk (es:List PE) (L:Nat) (p:PS):Bool :=
 band (p.e.ready L) (oelim p.duo (bor (bnot p.e.loud) (onlyReady es L p.e.idx p.e.idx))
  fun q=>band p.e.loud (band (q.ready L) (band (onlyReady es L p.e.idx q.idx) (band (onlyReady es (Nat.lor L (bitOf q.idx)) p.e.idx p.e.idx) (onlyReady es (Nat.lor L (bitOf p.e.idx)) q.idx q.idx)))))
def nextIs (q:PE) (rest:List PS):Bool:=lcase rest false fun p _=>band (Nat.beq p.e.idx q.idx) (isNoneB p.duo)
def stepsOk (es:List PE) (ps:List PS):Nat→Bool :=
 @List.rec PS (fun _=>Nat→Bool) (fun L=>lall (fun q=>inMask L q.idx) es) (fun p rest f L=>band (stepOk es L p) (band (oelim p.duo true fun q=>nextIs q rest) (f (Nat.lor L (bitOf p.e.idx))))) ps
def looksB (ops:List Oper) (d:Nat) (o:Oper):Bool :=
 bor (bnot (lall (fun x=>@Operand.rec (fun _=>Bool) (fun t=>bnot (Nat.beq t d)) (fun _=>true) (fun _=>true) (fun _=>true) x) o.op.operands.toList))
  (oelim o.guard false fun g=>oelim (lget ops g.1) false fun q=>oelim q.dst false fun t=>Nat.beq t d)
def dstIs (d:Nat) (o:Oper):Bool:=oelim o.dst false fun t=>Nat.beq t d
def dstOk (ops:List Oper) (es:List PE) (j:PE) (d:Nat):Bool :=
 band (bnot (looksB ops d j.op)) (lall (fun i=>bor (Nat.beq i.idx j.idx) (band (bnot (dstIs d i.op)) (bor (inMask i.anc j.idx) (bnot (looksB ops d i.op))))) es)
def dstLoudOk (ops:List Oper) (es:List PE) (j:PE) (d:Nat):Bool :=
 lall (fun i=>bor i.loud (bor (inMask i.anc j.idx) (bor (inMask j.anc i.idx) (bnot (looksB ops d i.op))))) es
def tmpsOk (ops:List Oper) (es:List PE):Bool:=lall (fun j=>oelim j.op.dst true fun d=>sw j.loud (dstLoudOk ops es j d) (dstOk ops es j d)) es
def edgesOk (es:List PE):Bool:=lall (fun p=>lall (fun e=>bor (bnot (bindsB e)) (nlt e.on p.idx)) p.op.after.toList) es
def regOk (ops:List Oper):Bool:=band (edgesOk (entries ops)) (band (stepsOk (entries ops) (steps ops) 0) (tmpsOk ops (entries ops)))
structure Lk where
 K:Mem
 H:Tr AObj
 sv:List (Nat×AObj)
def takeOut (l:Lk) (n:Nat):Lk:=oelim (l.H.get n) l fun o=>⟨l.K,l.H.erase n,(n,o) :: l.sv⟩
def lockIn (l:Lk) (n:Nat):Lk:=oelim (l.H.get n) l fun o=>⟨l.K.set n o,l.H.erase n,(n,o) :: l.sv⟩
def outs (anc:Nat) (ps:List Pend) (l:Lk):Lk:=@List.rec Pend (fun _=>Lk) l (fun p _ r=>sw (inMask anc p.idx) r (oelim p.nw r (takeOut r))) ps
def locks (anc:Nat) (ps:List Pend) (l:Lk):Lk:=@List.rec Pend (fun _=>Lk) l (fun p _ r=>sw (inMask anc p.idx) r (oelim p.rd r (lockIn r))) ps
def back (H:Tr AObj) (sv:List (Nat×AObj)):Tr AObj:=@List.rec (Nat×AObj) (fun _=>Tr AObj) H (fun p _ r=>r.set p.1 p.2) sv
structure RS where
 fr:Fr
 s:St
 ps:List Pend
def putRS (d:Option Tmp) (fr:Fr) (s:St) (ps:List Pend) (v:AV):Option RS:=omap (fun fr=>⟨fr,s,ps⟩) (putD d v fr)
def freshOk (anc:Nat) (ps:List Pend) (n:Nat):Bool:=lall (fun p=>bor (inMask anc p.idx) (oelim p.nw true fun m=>bnot (Nat.beq m n))) ps
def planSil (K:Mem) (e:PE) (r:RS) (x:Sil):Option RS:=@Sil.rec (fun _=>Option RS) (putRS e.op.dst r.fr r.s r.ps)
 (fun n g=>grd (freshOk e.anc r.ps n) (obind (obind (look K r.s n) g) (putRS e.op.dst r.fr r.s (⟨e.idx,some n,none⟩ :: r.ps))))
 (fun ob mk=>putRS e.op.dst r.fr (newSt ob r.s) (⟨e.idx,none,some r.s.k⟩ :: r.ps) (mk r.s.k)) none x
def planSoft (E:Env) (K:Mem) (all:List Oper) (e:PE) (r:RS):Option RS :=
 sw (wantedA all r.fr e.op.guard) (obind (silF e.op.op E r.fr) (planSil K e r)) (putRS e.op.dst r.fr r.s r.ps undefA)
def lkOf (K:Mem) (e:PE) (r:RS):Lk:=locks e.anc r.ps (outs e.anc r.ps ⟨K,r.s.H,[]⟩)
def planBack (sv:List (Nat×AObj)) (ps:List Pend) (p:FS):RS:=⟨p.1,⟨back p.2.H sv,p.2.k⟩,ps⟩
def planLoudIn (E:Env) (rec:Rec) (all:List Oper) (e:PE) (r:RS) (l:Lk):Option RS:=omap (planBack l.sv r.ps) (runOp E rec l.K all e.op r.fr ⟨l.H,r.s.k⟩)
def planLoud (E:Env) (rec:Rec) (K:Mem) (all:List Oper) (e:PE) (r:RS):Option RS:=planLoudIn E rec all e r (lkOf K e r)
def storeX (o:Op):Option Operand:=@Op.rec (fun _=>Option Operand) no1 no1 no3 no1 no2 no2 no3 no4 no2 (fun _ a _=>some a) no1 no1 no1 (fun _ _ _ _ _=>none) no3 no3 no2 no2 no3 no2 no2 no3 (fun _ _ _ _ _=>none) no3 no3
 no3 no3 no4 no4 no3 no4 no2 no2 no1 no4 no2 no1 no1 no1 no1 no2 no3 no2 o
def storeName (fr:Fr) (e:PE):Option Nat:=obind (storeX e.op.op) fun x=>omap Prod.fst (obind (evalX x fr) AV.asPtr)
def bareOp (e:PE):Bool:=band (isNoneB e.op.guard) (isNoneB e.op.dst)
def duoOk (K:Mem) (r:RS) (p q:PE):Bool:=band (band (bareOp p) (bareOp q)) (band (band (isNilB (lkOf K p r).sv) (isNilB (lkOf K q r).sv))
 (oelim (storeName r.fr p) false fun a=>oelim (storeName r.fr q) false fun b=>bnot (Nat.beq a b)))
def planStep (E:Env) (rec:Rec) (K:Mem) (all:List Oper) (p:PS) (r:RS):Option RS :=
 sw p.e.loud (grd (oelim p.duo true (duoOk K r p.e)) (planLoud E rec K all p.e r)) (planSoft E K all p.e r)
def runPlan (E:Env) (rec:Rec) (K:Mem) (all:List Oper) (ps:List PS):RS→Option RS :=
 @List.rec PS (fun _=>RS→Option RS) some (fun p _ f r=>obind (planStep E rec K all p r) f) ps
def runDraw (E:Env) (rec:Rec) (K:Mem) (ops:List Oper) (fr:Fr) (s:St):Option FS:=grd (regOk ops) (omap (fun r=>(r.fr,r.s)) (runPlan E rec K ops (steps ops) ⟨fr,s,[]⟩))
abbrev CodeF:=Env→Rec→Mem→Fr→St→Option Res
def resN (p:FS):Res:=.code .normal p.1 p.2
def cSkip:CodeF:=fun _ _ _ fr s=>some (.code .normal fr s)
def cRegion (_:Nat) (ops:Array Oper) (draw:Bool):CodeF:=fun E rec K fr s=>omap resN (sw draw (runDraw E rec K ops.toList fr s) (runOps E rec K ops.toList ops.toList fr s))
def contN (rec:Rec) (K:Mem) (b:Code) (e:Ex):Fr→St→Option Res:=@Ex.rec (fun _=>Fr→St→Option Res) (fun fr s=>rec (.code K b fr s)) (fun i fr s=>some (.code (.exit i) fr s)) (fun fr s=>some (.code .ret fr s)) e
def thenSeq (rec:Rec) (K:Mem) (b:Code) (r:Res):Option Res:=@Res.rec (fun _=>Option Res) (contN rec K b) no2 r
def cSeq (a b:Code):CodeF:=fun _ rec K fr s=>obind (rec (.code K a fr s)) (thenSeq rec K b)
def cCond (x:Operand) (a b:Code):CodeF:=fun _ rec K fr s=>obind (obind (evalX x fr) AV.asBool) fun t=>rec (.code K (sw t a b) fr s)
def contB (id:Nat) (e:Ex):Fr→St→Option Res:=@Ex.rec (fun _=>Fr→St→Option Res) (fun fr s=>some (.code .normal fr s)) (fun i fr s=>some (.code (sw (Nat.beq i id) .normal (.exit i)) fr s)) (fun fr s=>some (.code .ret fr s)) e
def thenBlock (id:Nat) (r:Res):Option Res:=@Res.rec (fun _=>Option Res) (contB id) no2 r
def cBlock (id:Nat) (a:Code):CodeF:=fun _ rec K fr s=>obind (rec (.code K a fr s)) (thenBlock id)
def cLoop (a:Code):CodeF:=fun _ rec K fr s=>obind (rec (.code K a fr s)) (thenSeq rec K (.loop a))
def cScope (a:Code):CodeF:=fun _ rec K fr s=>rec (.code K a fr s)
def cExit (id:Nat):CodeF:=fun _ _ _ fr s=>some (.code (.exit id) fr s)
def cRet:CodeF:=fun _ _ _ fr s=>some (.code .ret fr s)
def cNo:CodeF:=fun _ _ _ _ _=>none
def codeF (c:Code):CodeF:=@Code.rec (fun _=>CodeF) cSkip cRegion (fun a b _ _=>cSeq a b) (fun x a b _ _=>cCond x a b) (fun id a _=>cBlock id a) (fun a _=>cLoop a) (fun _ _ _ _ _ _=>cNo) cExit (fun a _=>cScope a) (fun _=>cSkip) (fun _=>cNo) cRet (fun _=>cNo) c
def loadNow (E:Env) (K:Mem) (s:St) (t:TypeId) (a:Nat×Nat):Option AV:=obind (E.ty.get t) fun i=>obind (look K s a.1) (loadObj a.2 i)
def resultA (E:Env) (K:Mem) (fr:Fr) (s:St) (r:ResultVar):Option AV:=@ResultVar.rec (fun _=>Option AV) (fun t=>evTmp t fr) (fun a t=>obind (obind (evTmp a fr) AV.asPtr) (loadNow E K s t)) r
def resultsA (E:Env) (K:Mem) (fr:Fr) (s:St) (l:List ResultVar):Option (List AV):=lmapO (resultA E K fr s) l
def oneOrTuple (l:List AV):AV:=lcase l (.tuple []) fun v r=>lcase r v fun w q=>.tuple (v :: w :: q)
def defThen (f:St→Option St) (r:Res):Option St:=@Res.rec (fun _=>Option St) no3 (fun _ s=>f s) r
def runDef (E:Env) (rec:Rec) (K:Mem) (d:FuncId×List AV) (f:St→Option St) (s:St):Option St :=
 oelim (E.dx.get d.1) (obind (rec (.dcall K d.1 d.2 s)) (defThen f)) fun n=>grd (Nat.beq (llen d.2) n) (f s)
def runDefs (E:Env) (rec:Rec) (K:Mem) (l:List (FuncId×List AV)):St→Option St:=@List.rec (FuncId×List AV) (fun _=>St→Option St) some (fun d _ f s=>runDef E rec K d f s) l
def notExit (e:Ex):Bool:=@Ex.rec (fun _=>Bool) true (fun _=>false) true e
def leaveC (E:Env) (rec:Rec) (K:Mem) (rs:List ResultVar) (e:Ex) (fr:Fr) (s:St):Option Res :=
 grd (notExit e) (obind (runDefs E rec K fr.defs s) fun s=>omap (fun vs=>.call (oneOrTuple vs) s) (resultsA E K fr s rs))
def leave (E:Env) (rec:Rec) (K:Mem) (rs:List ResultVar) (r:Res):Option Res:=@Res.rec (fun _=>Option Res) (leaveC E rec K rs) no2 r
def leaveDC (E:Env) (K:Mem) (rs:List ResultVar) (e:Ex) (fr:Fr) (s:St):Option Res :=
 grd (band (notExit e) (isNilB fr.defs)) (omap (fun vs=>.call (oneOrTuple vs) s) (resultsA E K fr s rs))
def leaveD (E:Env) (K:Mem) (rs:List ResultVar) (r:Res):Option Res:=@Res.rec (fun _=>Option Res) (leaveDC E K rs) no2 r
def bodyOf (E:Env) (rec:Rec) (K:Mem) (args:List AV) (s:St) (fn:Func):Option Res :=
 obind fn.body fun c=>grd (Nat.ble (llen args) fn.ntmps) (rec (.code K c ⟨fn.ntmps,E.gl,Tr.ofList args,[]⟩ s))
def enterFn (E:Env) (rec:Rec) (K:Mem) (args:List AV) (s:St) (fn:Func):Option Res:=obind (bodyOf E rec K args s fn) (leave E rec K fn.results.toList)
def enterD (E:Env) (rec:Rec) (K:Mem) (args:List AV) (s:St) (fn:Func):Option Res:=obind (bodyOf E rec K args s fn) (leaveD E K fn.results.toList)
def evTask (E:Env) (rec:Rec) (t:Task):Option Res:=@Task.rec (fun _=>Option Res) (fun K c fr s=>codeF c E rec K fr s) (fun K f args s=>obind (E.fn.get f) (enterFn E rec K args s))
 (fun K f args s=>obind (E.fn.get f) (enterD E rec K args s)) t
def ev (E:Env) (n:Nat):Rec:=@Nat.rec (fun _=>Rec) no1 (fun _ rec=>evTask E rec) n
def descOf (tt:Tr TypeInfo) (d:TypeDesc):TypeDesc:=match d with
 | .named _ u=>oelim (tt.get u) .invalid TypeInfo.desc
 | d=>d
def ukOf (d:TypeDesc):UK:=match d with
 | .bool=>.bool
 | .int k=>.int k
 | .string=>.string
 | .unsafePointer=>.unsafePointer
 | .pointer e=>.ptr e
 | .slice e=>.slice e
 | .array n e=>.array n e
 | .map k e=>.map k e
 | .struct fs=>.struct (lmap (fun f=>(f.offset,f.type)) fs.toList) (lall (fun f=>bnot (strEq f.name "_")) fs.toList)
 | .func _ _ _=>.func
 | .interface ms=>.iface (isNilB ms.toList)
 | _=>.other
def methOf (m:Method):String×Option (FuncId×Bool):=(m.name,grd (isNilB m.path.toList) m.func)
def tiOf (tt:Tr TypeInfo) (i:TypeInfo):TI:=⟨ukOf (descOf tt i.desc),i.size,i.bytes,obind i.zero absV,lmap methOf i.methods.toList⟩
end
end Go.Ev
