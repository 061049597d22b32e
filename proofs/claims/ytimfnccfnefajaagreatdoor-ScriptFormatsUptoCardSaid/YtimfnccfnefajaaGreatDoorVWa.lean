/- A part of the proof: Lbs -/
import Derived.Shelf.Strings.Builder1
import Derived.Shelf.Strings.Builder2
import Derived.Shelf.Strings.OnBuilder
import Derived.Shelf.Strings.Trim
import Derived.Shelf.Small.Utf8
import Derived.Shelf.Small.Bits
import Derived.Shelf.Small.Strs
import Derived.Shelf.Small.Wraps
import Derived.Shelf.Strings.BuilderF
import Derived.Shelf.Strings.BuilderK
import Derived.Shelf.Utf8.RuneCount
import Derived.Shelf.Strconv.Atoi
import Derived.Shelf.Strconv.Itoa0
import Derived.Shelf.Strconv.Itoa1
import Derived.Shelf.LaysM
import Derived.Shelf.Strconv.Itoa2
import Derived.Shelf.Strconv.Itoa3
import Derived.Shelf.Strconv.AtoiErrFast
import Derived.Shelf.Strconv.ParseIntEmpty
import Derived.Shelf.Strconv.AtoiFail
import Derived.Shelf.Strconv.Clone
import Derived.Shelf.Strconv.SyntaxError
import Derived.Shelf.LaysC
import Derived.Shelf.Strconv.ToError
import Derived.Shelf.Strconv.Lower
import Derived.Shelf.Strconv.ParseUint10
import Derived.Shelf.Strconv.ParseUint10Empty
import Derived.Shelf.Strconv.ParseUint10Any
import Derived.Shelf.Strconv.ParseInt10
import Derived.Shelf.Strconv.AtoiLong
import Derived.Shelf.Strconv.AtoiInnerAll
import Derived.Shelf.Strconv.RangeError
import Derived.Shelf.Strconv.ToErrorRange
import Derived.Shelf.Strconv.AtoiAll
import Derived.Shelf.Strconv.ErrVarAll
import Derived.Shelf.Strings.Search1
import Derived.Shelf.Strings.Search2
import Derived.Shelf.Strings.Search3
import Derived.Shelf.Strings.Cut
import Derived.Shelf.Strings.Count
import Derived.Shelf.Strings.Shaped
import Derived.Shelf.Strings.Prefix
import Derived.Shelf.Strings.Split
import Derived.Shelf.Strings.Replace
import Derived.Shelf.Strings.SplitShaped
import Derived.Shelf.Unicode.Decode
import Derived.Shelf.Strings.Runes
import Derived.Shelf.Strings.RuneCount
import Derived.Shelf.Strings.IndexAny
import Derived.Shelf.Strings.AsciiSet
import Derived.Shelf.Strings.IndexAnyAll
import Derived.Shelf.Strings.Explode
import Derived.Shelf.Bits.Mul64
import Derived.Shelf.Unicode.DecodeSlow
import Derived.Shelf.Unicode.DecodeAny
import Derived.Shelf.Unicode.DecodeLast
import Derived.Shelf.Slices.CompactS
import Derived.Ground.Names2Prog
import Derived.Shelf.Slices.SearchI
import Derived.Shelf.Slices.Cells
import Derived.Test.YtimfnccfnefajaaGreatDoorProg
set_option linter.unusedSimpArgs false
set_option linter.unusedVariables false
namespace Go.Proofs
open Go.Shelf Go.RowKit Go.Lib Go.Sort
def Tryz.lays169_ren:Go.Shelf.Ren:=⟨fun | 169=>61 | n=>n,fun | 70=>133 | 9=>9 | 0=>0 | 72=>135 | 37=>91 | 127=>176 | 3=>3 | 5=>5 | n=>n,fun | n=>n⟩
theorem Tryz.lays169:Go.Proofs.Lays.n169 Tryz.prog Tryz.lays169_ren:={
 mixed:=by kernel_rfl
 f169:=Tryz.func61.trans (congrArg some (by kernel_rfl))
 t0:=Tryz.underlying0
 a0:=Tryz.isAgg0
 z0:=Tryz.sizeOf0
 v0:=Tryz.zeroValue0
 t3:=Tryz.underlying3
 a3:=Tryz.isAgg3
 z3:=Tryz.sizeOf3
 v3:=Tryz.zeroValue3
 t9:=Tryz.underlying9
 a9:=Tryz.isAgg9
 z9:=Tryz.sizeOf9
 v9:=Tryz.zeroValue9
 t37:=Tryz.underlying91
 a37:=Tryz.isAgg91
 z37:=Tryz.sizeOf91
 v37:=Tryz.zeroValue91
 t70:=Tryz.underlying133
 a70:=Tryz.isAgg133
 z70:=Tryz.sizeOf133
 v70:=Tryz.zeroValue133
 t72:=Tryz.underlying135
 a72:=Tryz.isAgg135
 z72:=Tryz.sizeOf135
 v72:=Tryz.zeroValue135
 t127:=Tryz.underlying176
 a127:=Tryz.isAgg176
 z127:=Tryz.sizeOf176
 v127:=Tryz.zeroValue176 }
theorem Tryz.Builder_Extra_169:Builder.Extra Tryz.prog Tryz.lays169_ren:={
 sizeBuilder:=by kernel_rfl
 liesBuilder:=by kernel_rfl
 t5:=Tryz.underlying5
 a5:=Tryz.isAgg5
 z5:=Tryz.sizeOf5
 v5:=Tryz.zeroValue5
 infoByte:=by kernel_rfl
 cellsByte:=by kernel_rfl
 sizeByte:=by kernel_rfl
 neB5:=by decide }
theorem Tryz.Builder_String_any (B b:Nat) (l:List UInt8) (w:World) (h:Lib.IsBuilder 135 5 B b (Lib.byteCells l) w) (hBw:B≤w.heap.size) :
 Calls Tryz.prog 61 #[.pointer (some ⟨b,0,none⟩)] w fun e w'=>e=.returned (.string ⟨l.toArray⟩)∧Below B w w':=Any.Builder_String_any Tryz.lays169 Tryz.Builder_Extra_169 B b l w h hBw
def Tryz.lays156_ren:Go.Shelf.Ren:=⟨fun | 156=>40 | 165=>62 | 166=>60 | 169=>61 | 240=>93 | 241=>94 | 276=>156 | 277=>157 | n=>n,fun | 31=>60 | 9=>9 | 3=>3 | 4=>4 | 0=>0 | 20=>20 | 72=>135 | 76=>139 | 70=>133 | 37=>91 | 75=>137 | 127=>176 | 164=>268 | 5=>5 | 80=>141 | n=>n,fun | n=>n⟩
theorem Tryz.lays156:Go.Proofs.Lays.n156 Tryz.prog Tryz.lays156_ren:={
 mixed:=by kernel_rfl
 f156:=Tryz.func40.trans (congrArg some (by kernel_rfl))
 f165:=Tryz.func62.trans (congrArg some (by kernel_rfl))
 f166:=Tryz.func60.trans (congrArg some (by kernel_rfl))
 f169:=Tryz.func61.trans (congrArg some (by kernel_rfl))
 f240:=Tryz.func93.trans (congrArg some (by kernel_rfl))
 f241:=Tryz.func94.trans (congrArg some (by kernel_rfl))
 f276:=Tryz.func156.trans (congrArg some (by kernel_rfl))
 f277:=Tryz.func157.trans (congrArg some (by kernel_rfl))
 t0:=Tryz.underlying0
 a0:=Tryz.isAgg0
 z0:=Tryz.sizeOf0
 v0:=Tryz.zeroValue0
 t3:=Tryz.underlying3
 a3:=Tryz.isAgg3
 z3:=Tryz.sizeOf3
 v3:=Tryz.zeroValue3
 t4:=Tryz.underlying4
 a4:=Tryz.isAgg4
 z4:=Tryz.sizeOf4
 v4:=Tryz.zeroValue4
 t9:=Tryz.underlying9
 a9:=Tryz.isAgg9
 z9:=Tryz.sizeOf9
 v9:=Tryz.zeroValue9
 t20:=Tryz.underlying20
 a20:=Tryz.isAgg20
 z20:=Tryz.sizeOf20
 v20:=Tryz.zeroValue20
 t31:=Tryz.underlying60
 a31:=Tryz.isAgg60
 z31:=Tryz.sizeOf60
 v31:=Tryz.zeroValue60
 t37:=Tryz.underlying91
 a37:=Tryz.isAgg91
 z37:=Tryz.sizeOf91
 v37:=Tryz.zeroValue91
 t70:=Tryz.underlying133
 a70:=Tryz.isAgg133
 z70:=Tryz.sizeOf133
 v70:=Tryz.zeroValue133
 t72:=Tryz.underlying135
 a72:=Tryz.isAgg135
 z72:=Tryz.sizeOf135
 v72:=Tryz.zeroValue135
 t75:=Tryz.underlying137
 a75:=Tryz.isAgg137
 z75:=Tryz.sizeOf137
 v75:=Tryz.zeroValue137
 t76:=Tryz.underlying139
 a76:=Tryz.isAgg139
 z76:=Tryz.sizeOf139
 v76:=Tryz.zeroValue139
 t127:=Tryz.underlying176
 a127:=Tryz.isAgg176
 z127:=Tryz.sizeOf176
 v127:=Tryz.zeroValue176
 t164:=Tryz.underlying268
 a164:=Tryz.isAgg268
 z164:=Tryz.sizeOf268
 v164:=Tryz.zeroValue268 }
theorem Tryz.Builder_Extra_156:Builder.Extra Tryz.prog Tryz.lays156_ren:={
 sizeBuilder:=by kernel_rfl
 liesBuilder:=by kernel_rfl
 t5:=Tryz.underlying5
 a5:=Tryz.isAgg5
 z5:=Tryz.sizeOf5
 v5:=Tryz.zeroValue5
 infoByte:=by kernel_rfl
 cellsByte:=by kernel_rfl
 sizeByte:=by kernel_rfl
 neB5:=by decide }
theorem Tryz.strings_Join (bk o c:Nat) (xs:List ByteArray) (sep:ByteArray) (w:World) (hcells:∀ (j:Nat) x,xs[j]? = some x→w.cell? ⟨bk,o+j,none⟩=some (.string x)) (hbk:bk<w.heap.size) (hN:xs.length≤140737488355328) (hcap:xs.length≤c) (hlen:(Lib.join (xs.map (·.data.toList)) sep.data.toList).length≤140737488355328) :
 Calls Tryz.prog 40 #[.slice (some ⟨bk,o,none⟩) xs.length c,.string sep] w fun e w'=>e=.returned (.string ⟨(Lib.join (xs.map (·.data.toList)) sep.data.toList).toArray⟩)∧Below w.heap.size w w':=Any.strings_Join Tryz.lays156 Tryz.Builder_Extra_156 bk o c xs sep w hcells hbk hN hcap hlen
def Tryz.lays161_ren:Go.Shelf.Ren:=⟨fun | 161=>394 | 231=>524 | 227=>525 | 233=>526 | 235=>527 | 228=>536 | 197=>163 | 151=>640 | 260=>282 | 152=>534 | 137=>344 | 119=>644 | 224=>285 | 225=>284 | 217=>283 | 266=>401 | n=>n,fun | 9=>9 | 4=>4 | 3=>3 | 5=>5 | 117=>679 | 116=>678 | 0=>0 | 124=>682 | 105=>276 | 21=>21 | 119=>560 | 46=>70 | 139=>563 | 138=>562 | n=>n,fun | 3=>4 | 4=>5 | n=>n⟩
theorem Tryz.lays161:Go.Proofs.Lays.n161 Tryz.prog Tryz.lays161_ren:={
 mixed:=by kernel_rfl
 f119:=Tryz.func644.trans (congrArg some (by kernel_rfl))
 f137:=Tryz.func344.trans (congrArg some (by kernel_rfl))
 f151:=Tryz.func640.trans (congrArg some (by kernel_rfl))
 f152:=Tryz.func534.trans (congrArg some (by kernel_rfl))
 f161:=Tryz.func394.trans (congrArg some (by kernel_rfl))
 f197:=Tryz.func163.trans (congrArg some (by kernel_rfl))
 f217:=Tryz.func283.trans (congrArg some (by kernel_rfl))
 f224:=Tryz.func285.trans (congrArg some (by kernel_rfl))
 f225:=Tryz.func284.trans (congrArg some (by kernel_rfl))
 f227:=Tryz.func525.trans (congrArg some (by kernel_rfl))
 f228:=Tryz.func536.trans (congrArg some (by kernel_rfl))
 f231:=Tryz.func524.trans (congrArg some (by kernel_rfl))
 f233:=Tryz.func526.trans (congrArg some (by kernel_rfl))
 f235:=Tryz.func527.trans (congrArg some (by kernel_rfl))
 f260:=Tryz.func282.trans (congrArg some (by kernel_rfl))
 f266:=Tryz.func401.trans (congrArg some (by kernel_rfl))
 t0:=Tryz.underlying0
 a0:=Tryz.isAgg0
 z0:=Tryz.sizeOf0
 v0:=Tryz.zeroValue0
 t3:=Tryz.underlying3
 a3:=Tryz.isAgg3
 z3:=Tryz.sizeOf3
 v3:=Tryz.zeroValue3
 t4:=Tryz.underlying4
 a4:=Tryz.isAgg4
 z4:=Tryz.sizeOf4
 v4:=Tryz.zeroValue4
 t5:=Tryz.underlying5
 a5:=Tryz.isAgg5
 z5:=Tryz.sizeOf5
 v5:=Tryz.zeroValue5
 t9:=Tryz.underlying9
 a9:=Tryz.isAgg9
 z9:=Tryz.sizeOf9
 v9:=Tryz.zeroValue9
 t21:=Tryz.underlying21
 a21:=Tryz.isAgg21
 z21:=Tryz.sizeOf21
 v21:=Tryz.zeroValue21
 t46:=Tryz.underlying70
 a46:=Tryz.isAgg70
 z46:=Tryz.sizeOf70
 v46:=Tryz.zeroValue70
 t105:=Tryz.underlying276
 a105:=Tryz.isAgg276
 z105:=Tryz.sizeOf276
 v105:=Tryz.zeroValue276
 t116:=Tryz.underlying678
 a116:=Tryz.isAgg678
 z116:=Tryz.sizeOf678
 t117:=Tryz.underlying679
 a117:=Tryz.isAgg679
 z117:=Tryz.sizeOf679
 v117:=Tryz.zeroValue679
 t119:=Tryz.underlying560
 a119:=Tryz.isAgg560
 z119:=Tryz.sizeOf560
 t124:=Tryz.underlying682
 a124:=Tryz.isAgg682
 z124:=Tryz.sizeOf682
 v124:=Tryz.zeroValue682
 t138:=Tryz.underlying562
 a138:=Tryz.isAgg562
 z138:=Tryz.sizeOf562
 v138:=Tryz.zeroValue562
 t139:=Tryz.underlying563
 a139:=Tryz.isAgg563
 z139:=Tryz.sizeOf563
 v139:=Tryz.zeroValue563
 g3:=by kernel_rfl
 g4:=by kernel_rfl }
theorem Tryz.strings_TrimLeft_one (s:ByteArray) (c:UInt8) (hc:c.toNat<128) (w:World) :
 Calls Tryz.prog 394 #[.string s,.string ⟨#[c]⟩] w fun e w'=>e=.returned (.string ⟨(Lib.trimLeftB s.data.toList c).toArray⟩)∧w'=w:=Any.strings_TrimLeft_one Tryz.lays161 s c hc w
def Tryz.lays162_ren:Go.Shelf.Ren:=⟨fun | 162=>395 | 232=>528 | 227=>525 | 234=>529 | 236=>530 | 228=>536 | 271=>641 | 151=>640 | 120=>727 | 197=>163 | 152=>534 | 260=>282 | 137=>344 | 119=>644 | 224=>285 | 225=>284 | 217=>283 | 266=>401 | n=>n,fun | 9=>9 | 4=>4 | 3=>3 | 5=>5 | 117=>679 | 116=>678 | 0=>0 | 124=>682 | 21=>21 | 105=>276 | 46=>70 | 119=>560 | 139=>563 | 138=>562 | n=>n,fun | 3=>4 | 4=>5 | n=>n⟩
theorem Tryz.lays162:Go.Proofs.Lays.n162 Tryz.prog Tryz.lays162_ren:={
 mixed:=by kernel_rfl
 f119:=Tryz.func644.trans (congrArg some (by kernel_rfl))
 f120:=Tryz.func727.trans (congrArg some (by kernel_rfl))
 f137:=Tryz.func344.trans (congrArg some (by kernel_rfl))
 f151:=Tryz.func640.trans (congrArg some (by kernel_rfl))
 f152:=Tryz.func534.trans (congrArg some (by kernel_rfl))
 f162:=Tryz.func395.trans (congrArg some (by kernel_rfl))
 f197:=Tryz.func163.trans (congrArg some (by kernel_rfl))
 f217:=Tryz.func283.trans (congrArg some (by kernel_rfl))
 f224:=Tryz.func285.trans (congrArg some (by kernel_rfl))
 f225:=Tryz.func284.trans (congrArg some (by kernel_rfl))
 f227:=Tryz.func525.trans (congrArg some (by kernel_rfl))
 f228:=Tryz.func536.trans (congrArg some (by kernel_rfl))
 f232:=Tryz.func528.trans (congrArg some (by kernel_rfl))
 f234:=Tryz.func529.trans (congrArg some (by kernel_rfl))
 f236:=Tryz.func530.trans (congrArg some (by kernel_rfl))
 f260:=Tryz.func282.trans (congrArg some (by kernel_rfl))
 f266:=Tryz.func401.trans (congrArg some (by kernel_rfl))
 f271:=Tryz.func641.trans (congrArg some (by kernel_rfl))
 t0:=Tryz.underlying0
 a0:=Tryz.isAgg0
 z0:=Tryz.sizeOf0
 v0:=Tryz.zeroValue0
 t3:=Tryz.underlying3
 a3:=Tryz.isAgg3
 z3:=Tryz.sizeOf3
 v3:=Tryz.zeroValue3
 t4:=Tryz.underlying4
 a4:=Tryz.isAgg4
 z4:=Tryz.sizeOf4
 v4:=Tryz.zeroValue4
 t5:=Tryz.underlying5
 a5:=Tryz.isAgg5
 z5:=Tryz.sizeOf5
 v5:=Tryz.zeroValue5
 t9:=Tryz.underlying9
 a9:=Tryz.isAgg9
 z9:=Tryz.sizeOf9
 v9:=Tryz.zeroValue9
 t21:=Tryz.underlying21
 a21:=Tryz.isAgg21
 z21:=Tryz.sizeOf21
 v21:=Tryz.zeroValue21
 t46:=Tryz.underlying70
 a46:=Tryz.isAgg70
 z46:=Tryz.sizeOf70
 v46:=Tryz.zeroValue70
 t105:=Tryz.underlying276
 a105:=Tryz.isAgg276
 z105:=Tryz.sizeOf276
 v105:=Tryz.zeroValue276
 t116:=Tryz.underlying678
 a116:=Tryz.isAgg678
 z116:=Tryz.sizeOf678
 t117:=Tryz.underlying679
 a117:=Tryz.isAgg679
 z117:=Tryz.sizeOf679
 v117:=Tryz.zeroValue679
 t119:=Tryz.underlying560
 a119:=Tryz.isAgg560
 z119:=Tryz.sizeOf560
 t124:=Tryz.underlying682
 a124:=Tryz.isAgg682
 z124:=Tryz.sizeOf682
 v124:=Tryz.zeroValue682
 t138:=Tryz.underlying562
 a138:=Tryz.isAgg562
 z138:=Tryz.sizeOf562
 v138:=Tryz.zeroValue562
 t139:=Tryz.underlying563
 a139:=Tryz.isAgg563
 z139:=Tryz.sizeOf563
 v139:=Tryz.zeroValue563
 g3:=by kernel_rfl
 g4:=by kernel_rfl }
theorem Tryz.strings_TrimRight_one (s:ByteArray) (c:UInt8) (hc:c.toNat<128) (w:World) (hs:s.size≤9223372036854775807) :
 Calls Tryz.prog 395 #[.string s,.string ⟨#[c]⟩] w fun e w'=>e=.returned (.string ⟨(Lib.trimRightB s.data.toList c).toArray⟩)∧w'=w:=Any.strings_TrimRight_one Tryz.lays162 s c hc w hs
def Tryz.lays137_ren:Go.Shelf.Ren:=⟨fun | 137=>344 | 217=>283 | 266=>401 | n=>n,fun | 9=>9 | 5=>5 | 3=>3 | n=>n,fun | n=>n⟩
theorem Tryz.lays137:Go.Proofs.Lays.n137 Tryz.prog Tryz.lays137_ren:={
 mixed:=by kernel_rfl
 f137:=Tryz.func344.trans (congrArg some (by kernel_rfl))
 f217:=Tryz.func283.trans (congrArg some (by kernel_rfl))
 f266:=Tryz.func401.trans (congrArg some (by kernel_rfl))
 t3:=Tryz.underlying3
 a3:=Tryz.isAgg3
 z3:=Tryz.sizeOf3
 v3:=Tryz.zeroValue3
 t5:=Tryz.underlying5
 a5:=Tryz.isAgg5
 z5:=Tryz.sizeOf5
 v5:=Tryz.zeroValue5
 t9:=Tryz.underlying9
 a9:=Tryz.isAgg9
 z9:=Tryz.sizeOf9
 v9:=Tryz.zeroValue9 }
theorem Tryz.strings_IndexByte (s:ByteArray) (c:Int) (w:World) :
 Calls Tryz.prog 344 #[.string s,.int .u8 c] w fun e w'=>e=.returned (.int .i64 (Lib.indexByte s.data.toList c.toNat.toUInt8))∧w'=w:=Any.strings_IndexByte Tryz.lays137 s c w
def Tryz.lays104_ren:Go.Shelf.Ren:=⟨fun | 104=>64 | 211=>95 | 207=>102 | n=>n,fun | 9=>9 | 4=>4 | 24=>143 | 3=>3 | n=>n,fun | n=>n⟩
theorem Tryz.lays104:Go.Proofs.Lays.n104 Tryz.prog Tryz.lays104_ren:={
 mixed:=by kernel_rfl
 f104:=Tryz.func64.trans (congrArg some (by kernel_rfl))
 f207:=Tryz.func102.trans (congrArg some (by kernel_rfl))
 f211:=Tryz.func95.trans (congrArg some (by kernel_rfl))
 t3:=Tryz.underlying3
 a3:=Tryz.isAgg3
 z3:=Tryz.sizeOf3
 v3:=Tryz.zeroValue3
 t4:=Tryz.underlying4
 a4:=Tryz.isAgg4
 z4:=Tryz.sizeOf4
 v4:=Tryz.zeroValue4
 t9:=Tryz.underlying9
 a9:=Tryz.isAgg9
 z9:=Tryz.sizeOf9
 v9:=Tryz.zeroValue9
 t24:=Tryz.underlying143
 a24:=Tryz.isAgg143
 z24:=Tryz.sizeOf143
 v24:=Tryz.zeroValue143 }
theorem Tryz.strings_CutSuffix (s p:ByteArray) (w:World) (hs:s.size≤9223372036854775807) :
 Calls Tryz.prog 64 #[.string s,.string p] w fun e w'=>e=.returned (.tuple #[.string ⟨(Lib.trimSuffix s.data.toList p.data.toList).toArray⟩,.bool (Lib.hasSuffix s.data.toList p.data.toList)])∧w'=w:=Any.strings_CutSuffix Tryz.lays104 s p w hs
def Tryz.laysM171_ren:Go.Shelf.Ren:=⟨fun | 171=>58 | 243=>92 | 246=>155 | 283=>271 | 284=>272 | 285=>273 | 286=>274 | 129=>388 | 317=>387 | 318=>389 | 319=>390 | 320=>391 | 337=>522 | 338=>523 | n=>n,fun | 3=>3 | 9=>9 | 2=>2 | 4=>4 | 171=>422 | 0=>0 | 53=>67 | 37=>91 | 5=>5 | 173=>425 | 212=>551 | 51=>450 | 20=>20 | 213=>552 | 46=>70 | 232=>795 | 233=>796 | n=>n,fun | 17=>3 | 18=>10 | 19=>11 | n=>n⟩
theorem Tryz.laysM171:Go.Proofs.LaysM.n171 Tryz.prog Tryz.laysM171_ren:={
 mixed:=by kernel_rfl
 f129:=Tryz.func388.trans (congrArg some (by kernel_rfl))
 f171:=Tryz.func58.trans (congrArg some (by kernel_rfl))
 f243:=Tryz.func92.trans (congrArg some (by kernel_rfl))
 f246:=Tryz.func155.trans (congrArg some (by kernel_rfl))
 f283:=Tryz.func271.trans (congrArg some (by kernel_rfl))
 f284:=Tryz.func272.trans (congrArg some (by kernel_rfl))
 f285:=Tryz.func273.trans (congrArg some (by kernel_rfl))
 f286:=Tryz.func274.trans (congrArg some (by kernel_rfl))
 f317:=Tryz.func387.trans (congrArg some (by kernel_rfl))
 f318:=Tryz.func389.trans (congrArg some (by kernel_rfl))
 f319:=Tryz.func390.trans (congrArg some (by kernel_rfl))
 f320:=Tryz.func391.trans (congrArg some (by kernel_rfl))
 f337:=Tryz.func522.trans (congrArg some (by kernel_rfl))
 f338:=Tryz.func523.trans (congrArg some (by kernel_rfl))
 t0:=Tryz.underlying0
 a0:=Tryz.isAgg0
 z0:=Tryz.sizeOf0
 v0:=Tryz.zeroValue0
 t2:=Tryz.underlying2
 a2:=Tryz.isAgg2
 z2:=Tryz.sizeOf2
 v2:=Tryz.zeroValue2
 t3:=Tryz.underlying3
 a3:=Tryz.isAgg3
 z3:=Tryz.sizeOf3
 v3:=Tryz.zeroValue3
 t4:=Tryz.underlying4
 a4:=Tryz.isAgg4
 z4:=Tryz.sizeOf4
 v4:=Tryz.zeroValue4
 t5:=Tryz.underlying5
 a5:=Tryz.isAgg5
 z5:=Tryz.sizeOf5
 v5:=Tryz.zeroValue5
 t9:=Tryz.underlying9
 a9:=Tryz.isAgg9
 z9:=Tryz.sizeOf9
 v9:=Tryz.zeroValue9
 t20:=Tryz.underlying20
 a20:=Tryz.isAgg20
 z20:=Tryz.sizeOf20
 v20:=Tryz.zeroValue20
 t37:=Tryz.underlying91
 a37:=Tryz.isAgg91
 z37:=Tryz.sizeOf91
 v37:=Tryz.zeroValue91
 t46:=Tryz.underlying70
 a46:=Tryz.isAgg70
 z46:=Tryz.sizeOf70
 v46:=Tryz.zeroValue70
 t51:=Tryz.underlying450
 a51:=Tryz.isAgg450
 z51:=Tryz.sizeOf450
 v51:=Tryz.zeroValue450
 t53:=Tryz.underlying67
 a53:=Tryz.isAgg67
 z53:=Tryz.sizeOf67
 v53:=Tryz.zeroValue67
 t171:=Tryz.underlying422
 a171:=Tryz.isAgg422
 z171:=Tryz.sizeOf422
 v171:=Tryz.zeroValue422
 t173:=Tryz.underlying425
 a173:=Tryz.isAgg425
 z173:=Tryz.sizeOf425
 v173:=Tryz.zeroValue425
 t212:=Tryz.underlying551
 a212:=Tryz.isAgg551
 z212:=Tryz.sizeOf551
 v212:=Tryz.zeroValue551
 t213:=Tryz.underlying552
 a213:=Tryz.isAgg552
 z213:=Tryz.sizeOf552
 t232:=Tryz.underlying795
 a232:=Tryz.isAgg795
 z232:=Tryz.sizeOf795
 v232:=Tryz.zeroValue795
 t233:=Tryz.underlying796
 a233:=Tryz.isAgg796
 z233:=Tryz.sizeOf796
 v233:=Tryz.zeroValue796
 g17:=by kernel_rfl
 g18:=by kernel_rfl
 g19:=by kernel_rfl
 i0:=by kernel_rfl
 i2:=by kernel_rfl
 i3:=by kernel_rfl
 i4:=by kernel_rfl
 i5:=by kernel_rfl
 i9:=by kernel_rfl
 i20:=by kernel_rfl
 i37:=by kernel_rfl
 i46:=by kernel_rfl
 i51:=by kernel_rfl
 i53:=by kernel_rfl
 i171:=by kernel_rfl
 i173:=by kernel_rfl
 i212:=by kernel_rfl
 i232:=by kernel_rfl
 i233:=by kernel_rfl
 m17:=by kernel_rfl
 m18:=by kernel_rfl
 m19:=by kernel_rfl }
theorem Tryz.strconv_Itoa (n:Int) (h0 : -9223372036854775808≤n) (h1:n≤9223372036854775807) (w:World) (htab:Lib.TabIs Tryz.prog w "internal/strconv.uint64pow10" .u64 Lib.pow10Tab) :
 Calls Tryz.prog 58 #[.int .i64 n] w fun e w'=>e=.returned (.string ⟨(Lib.itoa n).toArray⟩)∧∃ k os,w'=grow (w.drewN k) os:=Any.strconv_Itoa Tryz.laysM171 n h0 h1 w htab
def Tryz.laysC172_ren:Go.Shelf.Ren:=⟨fun | 172=>160 | 244=>279 | 245=>280 | 247=>396 | 279=>397 | 280=>398 | 281=>399 | 282=>400 | 287=>531 | 316=>532 | 171=>58 | 205=>533 | 321=>642 | 322=>643 | 243=>92 | 246=>155 | 283=>271 | 284=>272 | 285=>273 | 286=>274 | 129=>388 | 317=>387 | 318=>389 | 319=>390 | 320=>391 | 337=>522 | 338=>523 | n=>n,fun | 9=>9 | 3=>3 | 75=>137 | 76=>139 | 4=>4 | 5=>5 | 167=>554 | 37=>91 | 0=>0 | 85=>555 | 2=>2 | 168=>557 | 53=>67 | 175=>683 | 46=>70 | 210=>686 | 127=>176 | 145=>800 | 143=>798 | 21=>21 | 171=>422 | 173=>425 | 212=>551 | 51=>450 | 20=>20 | 213=>552 | 232=>795 | 233=>796 | 80=>141 | n=>n,fun | 15=>7 | 16=>8 | 17=>3 | 18=>10 | 19=>11 | n=>n⟩
theorem Tryz.laysC172:Go.Proofs.LaysC.n172 Tryz.prog Tryz.laysC172_ren:={
 mixed:=by kernel_rfl
 f129:=Tryz.func388.trans (congrArg some (by kernel_rfl))
 f171:=Tryz.func58.trans (congrArg some (by kernel_rfl))
 f172:=Tryz.func160.trans (congrArg some (by kernel_rfl))
 f205:=Tryz.func533.trans (congrArg some (by kernel_rfl))
 f243:=Tryz.func92.trans (congrArg some (by kernel_rfl))
 f244:=Tryz.func279.trans (congrArg some (by kernel_rfl))
 f245:=Tryz.func280.trans (congrArg some (by kernel_rfl))
 f246:=Tryz.func155.trans (congrArg some (by kernel_rfl))
 f247:=Tryz.func396.trans (congrArg some (by kernel_rfl))
 f279:=Tryz.func397.trans (congrArg some (by kernel_rfl))
 f280:=Tryz.func398.trans (congrArg some (by kernel_rfl))
 f281:=Tryz.func399.trans (congrArg some (by kernel_rfl))
 f282:=Tryz.func400.trans (congrArg some (by kernel_rfl))
 f283:=Tryz.func271.trans (congrArg some (by kernel_rfl))
 f284:=Tryz.func272.trans (congrArg some (by kernel_rfl))
 f285:=Tryz.func273.trans (congrArg some (by kernel_rfl))
 f286:=Tryz.func274.trans (congrArg some (by kernel_rfl))
 f287:=Tryz.func531.trans (congrArg some (by kernel_rfl))
 f316:=Tryz.func532.trans (congrArg some (by kernel_rfl))
 f317:=Tryz.func387.trans (congrArg some (by kernel_rfl))
 f318:=Tryz.func389.trans (congrArg some (by kernel_rfl))
 f319:=Tryz.func390.trans (congrArg some (by kernel_rfl))
 f320:=Tryz.func391.trans (congrArg some (by kernel_rfl))
 f321:=Tryz.func642.trans (congrArg some (by kernel_rfl))
 f322:=Tryz.func643.trans (congrArg some (by kernel_rfl))
 f337:=Tryz.func522.trans (congrArg some (by kernel_rfl))
 f338:=Tryz.func523.trans (congrArg some (by kernel_rfl))
 t0:=Tryz.underlying0
 a0:=Tryz.isAgg0
 z0:=Tryz.sizeOf0
 v0:=Tryz.zeroValue0
 t2:=Tryz.underlying2
 a2:=Tryz.isAgg2
 z2:=Tryz.sizeOf2
 v2:=Tryz.zeroValue2
 t3:=Tryz.underlying3
 a3:=Tryz.isAgg3
 z3:=Tryz.sizeOf3
 v3:=Tryz.zeroValue3
 t4:=Tryz.underlying4
 a4:=Tryz.isAgg4
 z4:=Tryz.sizeOf4
 v4:=Tryz.zeroValue4
 t5:=Tryz.underlying5
 a5:=Tryz.isAgg5
 z5:=Tryz.sizeOf5
 v5:=Tryz.zeroValue5
 t9:=Tryz.underlying9
 a9:=Tryz.isAgg9
 z9:=Tryz.sizeOf9
 v9:=Tryz.zeroValue9
 t20:=Tryz.underlying20
 a20:=Tryz.isAgg20
 z20:=Tryz.sizeOf20
 v20:=Tryz.zeroValue20
 t21:=Tryz.underlying21
 a21:=Tryz.isAgg21
 z21:=Tryz.sizeOf21
 v21:=Tryz.zeroValue21
 t37:=Tryz.underlying91
 a37:=Tryz.isAgg91
 z37:=Tryz.sizeOf91
 v37:=Tryz.zeroValue91
 t46:=Tryz.underlying70
 a46:=Tryz.isAgg70
 z46:=Tryz.sizeOf70
 v46:=Tryz.zeroValue70
 t51:=Tryz.underlying450
 a51:=Tryz.isAgg450
 z51:=Tryz.sizeOf450
 v51:=Tryz.zeroValue450
 t53:=Tryz.underlying67
 a53:=Tryz.isAgg67
 z53:=Tryz.sizeOf67
 v53:=Tryz.zeroValue67
 t75:=Tryz.underlying137
 a75:=Tryz.isAgg137
 z75:=Tryz.sizeOf137
 v75:=Tryz.zeroValue137
 t76:=Tryz.underlying139
 a76:=Tryz.isAgg139
 z76:=Tryz.sizeOf139
 v76:=Tryz.zeroValue139
 t85:=Tryz.underlying555
 a85:=Tryz.isAgg555
 z85:=Tryz.sizeOf555
 v85:=Tryz.zeroValue555
 t127:=Tryz.underlying176
 a127:=Tryz.isAgg176
 z127:=Tryz.sizeOf176
 v127:=Tryz.zeroValue176
 t143:=Tryz.underlying798
 a143:=Tryz.isAgg798
 z143:=Tryz.sizeOf798
 v143:=Tryz.zeroValue798
 t145:=Tryz.underlying800
 a145:=Tryz.isAgg800
 z145:=Tryz.sizeOf800
 v145:=Tryz.zeroValue800
 t167:=Tryz.underlying554
 a167:=Tryz.isAgg554
 z167:=Tryz.sizeOf554
 v167:=Tryz.zeroValue554
 t168:=Tryz.underlying557
 a168:=Tryz.isAgg557
 z168:=Tryz.sizeOf557
 v168:=Tryz.zeroValue557
 t171:=Tryz.underlying422
 a171:=Tryz.isAgg422
 z171:=Tryz.sizeOf422
 v171:=Tryz.zeroValue422
 t173:=Tryz.underlying425
 a173:=Tryz.isAgg425
 z173:=Tryz.sizeOf425
 v173:=Tryz.zeroValue425
 t175:=Tryz.underlying683
 a175:=Tryz.isAgg683
 z175:=Tryz.sizeOf683
 v175:=Tryz.zeroValue683
 t210:=Tryz.underlying686
 a210:=Tryz.isAgg686
 z210:=Tryz.sizeOf686
 v210:=Tryz.zeroValue686
 t212:=Tryz.underlying551
 a212:=Tryz.isAgg551
 z212:=Tryz.sizeOf551
 v212:=Tryz.zeroValue551
 t213:=Tryz.underlying552
 a213:=Tryz.isAgg552
 z213:=Tryz.sizeOf552
 t232:=Tryz.underlying795
 a232:=Tryz.isAgg795
 z232:=Tryz.sizeOf795
 v232:=Tryz.zeroValue795
 t233:=Tryz.underlying796
 a233:=Tryz.isAgg796
 z233:=Tryz.sizeOf796
 v233:=Tryz.zeroValue796
 g15:=by kernel_rfl
 g16:=by kernel_rfl
 g17:=by kernel_rfl
 g18:=by kernel_rfl
 g19:=by kernel_rfl
 t80:=Tryz.underlying141
 a80:=Tryz.isAgg141
 z80:=Tryz.sizeOf141
 v80:=Tryz.zeroValue141
 i0:=by kernel_rfl
 i2:=by kernel_rfl
 i3:=by kernel_rfl
 i4:=by kernel_rfl
 i5:=by kernel_rfl
 i9:=by kernel_rfl
 i20:=by kernel_rfl
 i21:=by kernel_rfl
 i37:=by kernel_rfl
 i46:=by kernel_rfl
 i51:=by kernel_rfl
 i53:=by kernel_rfl
 i75:=by kernel_rfl
 i76:=by kernel_rfl
 i80:=by kernel_rfl
 i85:=by kernel_rfl
 i127:=by kernel_rfl
 i143:=by kernel_rfl
 i145:=by kernel_rfl
 i167:=by kernel_rfl
 i168:=by kernel_rfl
 i171:=by kernel_rfl
 i173:=by kernel_rfl
 i175:=by kernel_rfl
 i210:=by kernel_rfl
 i212:=by kernel_rfl
 i232:=by kernel_rfl
 i233:=by kernel_rfl
 m15:=by kernel_rfl
 m16:=by kernel_rfl
 m17:=by kernel_rfl
 m18:=by kernel_rfl
 m19:=by kernel_rfl
 c0:=by kernel_rfl
 c2:=by kernel_rfl
 c3:=by kernel_rfl
 c4:=by kernel_rfl
 c5:=by kernel_rfl
 c9:=by kernel_rfl
 c20:=by kernel_rfl
 c21:=by kernel_rfl
 c37:=by kernel_rfl
 c46:=by kernel_rfl
 c51:=by kernel_rfl
 c53:=by kernel_rfl
 c75:=by kernel_rfl
 c76:=by kernel_rfl
 c80:=by kernel_rfl
 c85:=by kernel_rfl
 c127:=by kernel_rfl
 c143:=by kernel_rfl
 c145:=by kernel_rfl
 c167:=by kernel_rfl
 c168:=by kernel_rfl
 c171:=by kernel_rfl
 c173:=by kernel_rfl
 c175:=by kernel_rfl
 c210:=by kernel_rfl
 c212:=by kernel_rfl
 c213:=by kernel_rfl
 c232:=by kernel_rfl
 c233:=by kernel_rfl }
theorem Tryz.strconv_Atoi_ok (s:ByteArray) (hmax:s.size≤9223372036854775806) (v:Int) (h:Lib.atoiAll s.data.toList=.ok v) (w:World) :
 Calls Tryz.prog 160 #[.string s] w fun e w'=>e=.returned (.tuple #[.int .i64 v,.nilIface])∧(w'=w∨∃ t,w'=Lib.bytesWorld w 5 t):=Any.strconv_Atoi_ok Tryz.laysC172 s hmax v h w
theorem Tryz.strconv_Atoi_syntax (s:ByteArray) (hlim:s.size≤281474976710656) (h:Lib.atoiAll s.data.toList=Lib.atoiAll []) (ev:Value) (w:World) (hv:w.cell? ⟨7,0,none⟩=some ev) (hev:ev=.nilIface∨∃ te pe,ev=.iface te pe) :
 Calls Tryz.prog 160 #[.string s] w fun e w'=>∃ N,e=.returned (.tuple #[.int .i64 (0),.iface 557 (.pointer (some ⟨N,0,none⟩))])∧w.heap.size≤N∧w'.heap[N]? = some (.cells #[.string ⟨#[65,116,111,105]⟩,.string s,ev] 686 (0,0))∧Below w.heap.size w w':=Any.strconv_Atoi_syntax Tryz.laysC172 s hlim h ev w hv hev
theorem Tryz.strconv_Atoi_range (s:ByteArray) (hlim:s.size≤281474976710656) (h:Lib.atoiAll s.data.toList=.range) (ev:Value) (w:World) (hv:w.cell? ⟨8,0,none⟩=some ev) (hev:ev=.nilIface∨∃ te pe,ev=.iface te pe) :
 Calls Tryz.prog 160 #[.string s] w fun e w'=>∃ N,e=.returned (.tuple #[.int .i64 (Lib.atoiSat s.data.toList),.iface 557 (.pointer (some ⟨N,0,none⟩))])∧w.heap.size≤N∧w'.heap[N]? = some (.cells #[.string ⟨#[65,116,111,105]⟩,.string s,ev] 686 (0,0))∧Below w.heap.size w w':=Any.strconv_Atoi_range Tryz.laysC172 s hlim h ev w hv hev
def Tryz.lays219_ren:Go.Shelf.Ren:=⟨fun | 219=>165 | 217=>283 | 225=>284 | 224=>285 | 267=>286 | 266=>401 | 314=>402 | n=>n,fun | 9=>9 | 3=>3 | 4=>4 | 5=>5 | 46=>70 | 146=>564 | 51=>450 | n=>n,fun | 1=>2 | n=>n⟩
theorem Tryz.lays219:Go.Proofs.Lays.n219 Tryz.prog Tryz.lays219_ren:={
 mixed:=by kernel_rfl
 f217:=Tryz.func283.trans (congrArg some (by kernel_rfl))
 f219:=Tryz.func165.trans (congrArg some (by kernel_rfl))
 f224:=Tryz.func285.trans (congrArg some (by kernel_rfl))
 f225:=Tryz.func284.trans (congrArg some (by kernel_rfl))
 f266:=Tryz.func401.trans (congrArg some (by kernel_rfl))
 f267:=Tryz.func286.trans (congrArg some (by kernel_rfl))
 f314:=Tryz.func402.trans (congrArg some (by kernel_rfl))
 t3:=Tryz.underlying3
 a3:=Tryz.isAgg3
 z3:=Tryz.sizeOf3
 v3:=Tryz.zeroValue3
 t4:=Tryz.underlying4
 a4:=Tryz.isAgg4
 z4:=Tryz.sizeOf4
 v4:=Tryz.zeroValue4
 t5:=Tryz.underlying5
 a5:=Tryz.isAgg5
 z5:=Tryz.sizeOf5
 v5:=Tryz.zeroValue5
 t9:=Tryz.underlying9
 a9:=Tryz.isAgg9
 z9:=Tryz.sizeOf9
 v9:=Tryz.zeroValue9
 t46:=Tryz.underlying70
 a46:=Tryz.isAgg70
 z46:=Tryz.sizeOf70
 v46:=Tryz.zeroValue70
 t51:=Tryz.underlying450
 a51:=Tryz.isAgg450
 z51:=Tryz.sizeOf450
 v51:=Tryz.zeroValue450
 t146:=Tryz.underlying564
 a146:=Tryz.isAgg564
 z146:=Tryz.sizeOf564
 v146:=Tryz.zeroValue564
 g1:=by kernel_rfl }
theorem Tryz.stringslite_Index (s sub:ByteArray) (m:Int) (w:World) (hs:s.size<4294967281) (hm:w.cell? ⟨2,0,none⟩=some (.int .i64 m)) :
 Calls Tryz.prog 165 #[.string s,.string sub] w fun e w'=>e=.returned (.int .i64 (Lib.index s.data.toList sub.data.toList))∧w'=w:=Any.stringslite_Index Tryz.lays219 s sub m w hs hm
def Tryz.lays145_ren:Go.Shelf.Ren:=⟨fun | 145=>345 | 220=>455 | 219=>165 | 217=>283 | 225=>284 | 224=>285 | 267=>286 | 266=>401 | 314=>402 | n=>n,fun | 9=>9 | 4=>4 | 59=>503 | 3=>3 | 5=>5 | 46=>70 | 146=>564 | 51=>450 | n=>n,fun | 1=>2 | n=>n⟩
theorem Tryz.lays145:Go.Proofs.Lays.n145 Tryz.prog Tryz.lays145_ren:={
 mixed:=by kernel_rfl
 f145:=Tryz.func345.trans (congrArg some (by kernel_rfl))
 f217:=Tryz.func283.trans (congrArg some (by kernel_rfl))
 f219:=Tryz.func165.trans (congrArg some (by kernel_rfl))
 f220:=Tryz.func455.trans (congrArg some (by kernel_rfl))
 f224:=Tryz.func285.trans (congrArg some (by kernel_rfl))
 f225:=Tryz.func284.trans (congrArg some (by kernel_rfl))
 f266:=Tryz.func401.trans (congrArg some (by kernel_rfl))
 f267:=Tryz.func286.trans (congrArg some (by kernel_rfl))
 f314:=Tryz.func402.trans (congrArg some (by kernel_rfl))
 t3:=Tryz.underlying3
 a3:=Tryz.isAgg3
 z3:=Tryz.sizeOf3
 v3:=Tryz.zeroValue3
 t4:=Tryz.underlying4
 a4:=Tryz.isAgg4
 z4:=Tryz.sizeOf4
 v4:=Tryz.zeroValue4
 t5:=Tryz.underlying5
 a5:=Tryz.isAgg5
 z5:=Tryz.sizeOf5
 v5:=Tryz.zeroValue5
 t9:=Tryz.underlying9
 a9:=Tryz.isAgg9
 z9:=Tryz.sizeOf9
 v9:=Tryz.zeroValue9
 t46:=Tryz.underlying70
 a46:=Tryz.isAgg70
 z46:=Tryz.sizeOf70
 v46:=Tryz.zeroValue70
 t51:=Tryz.underlying450
 a51:=Tryz.isAgg450
 z51:=Tryz.sizeOf450
 v51:=Tryz.zeroValue450
 t59:=Tryz.underlying503
 a59:=Tryz.isAgg503
 z59:=Tryz.sizeOf503
 v59:=Tryz.zeroValue503
 t146:=Tryz.underlying564
 a146:=Tryz.isAgg564
 z146:=Tryz.sizeOf564
 v146:=Tryz.zeroValue564
 g1:=by kernel_rfl }
theorem Tryz.strings_Cut (s sep:ByteArray) (m:Int) (w:World) (hs:s.size<4294967281) (hm:w.cell? ⟨2,0,none⟩=some (.int .i64 m)) :
 Calls Tryz.prog 345 #[.string s,.string sep] w fun e w'=>e=.returned (.tuple #[.string ⟨(Lib.cut s.data.toList sep.data.toList).1.toArray⟩,.string ⟨(Lib.cut s.data.toList sep.data.toList).2.1.toArray⟩,.bool (Lib.cut s.data.toList sep.data.toList).2.2])∧∃ n,w'=w.drewN n:=Any.strings_Cut Tryz.lays145 s sep m w hs hm
def Tryz.lays99_ren:Go.Shelf.Ren:=⟨fun | 99=>277 | 206=>393 | n=>n,fun | 9=>9 | 4=>4 | 3=>3 | n=>n,fun | n=>n⟩
theorem Tryz.lays99:Go.Proofs.Lays.n99 Tryz.prog Tryz.lays99_ren:={
 mixed:=by kernel_rfl
 f99:=Tryz.func277.trans (congrArg some (by kernel_rfl))
 f206:=Tryz.func393.trans (congrArg some (by kernel_rfl))
 t3:=Tryz.underlying3
 a3:=Tryz.isAgg3
 z3:=Tryz.sizeOf3
 v3:=Tryz.zeroValue3
 t4:=Tryz.underlying4
 a4:=Tryz.isAgg4
 z4:=Tryz.sizeOf4
 v4:=Tryz.zeroValue4
 t9:=Tryz.underlying9
 a9:=Tryz.isAgg9
 z9:=Tryz.sizeOf9
 v9:=Tryz.zeroValue9 }
theorem Tryz.strings_HasPrefix (s p:ByteArray) (w:World) :
 Calls Tryz.prog 277 #[.string s,.string p] w fun e w'=>e=.returned (.bool (Lib.hasPrefix s.data.toList p.data.toList))∧w'=w:=Any.strings_HasPrefix Tryz.lays99 s p w
def Tryz.lays101_ren:Go.Shelf.Ren:=⟨fun | 101=>161 | 208=>281 | 206=>393 | n=>n,fun | 9=>9 | 4=>4 | 3=>3 | n=>n,fun | n=>n⟩
theorem Tryz.lays101:Go.Proofs.Lays.n101 Tryz.prog Tryz.lays101_ren:={
 mixed:=by kernel_rfl
 f101:=Tryz.func161.trans (congrArg some (by kernel_rfl))
 f206:=Tryz.func393.trans (congrArg some (by kernel_rfl))
 f208:=Tryz.func281.trans (congrArg some (by kernel_rfl))
 t3:=Tryz.underlying3
 a3:=Tryz.isAgg3
 z3:=Tryz.sizeOf3
 v3:=Tryz.zeroValue3
 t4:=Tryz.underlying4
 a4:=Tryz.isAgg4
 z4:=Tryz.sizeOf4
 v4:=Tryz.zeroValue4
 t9:=Tryz.underlying9
 a9:=Tryz.isAgg9
 z9:=Tryz.sizeOf9
 v9:=Tryz.zeroValue9 }
theorem Tryz.strings_TrimPrefix (s p:ByteArray) (w:World) :
 Calls Tryz.prog 161 #[.string s,.string p] w fun e w'=>e=.returned (.string ⟨(Lib.trimPrefix s.data.toList p.data.toList).toArray⟩)∧w'=w:=Any.strings_TrimPrefix Tryz.lays101 s p w
def Tryz.lays102_ren:Go.Shelf.Ren:=⟨fun | 102=>44 | 209=>69 | 207=>102 | n=>n,fun | 9=>9 | 4=>4 | 3=>3 | n=>n,fun | n=>n⟩
theorem Tryz.lays102:Go.Proofs.Lays.n102 Tryz.prog Tryz.lays102_ren:={
 mixed:=by kernel_rfl
 f102:=Tryz.func44.trans (congrArg some (by kernel_rfl))
 f207:=Tryz.func102.trans (congrArg some (by kernel_rfl))
 f209:=Tryz.func69.trans (congrArg some (by kernel_rfl))
 t3:=Tryz.underlying3
 a3:=Tryz.isAgg3
 z3:=Tryz.sizeOf3
 v3:=Tryz.zeroValue3
 t4:=Tryz.underlying4
 a4:=Tryz.isAgg4
 z4:=Tryz.sizeOf4
 v4:=Tryz.zeroValue4
 t9:=Tryz.underlying9
 a9:=Tryz.isAgg9
 z9:=Tryz.sizeOf9
 v9:=Tryz.zeroValue9 }
theorem Tryz.strings_TrimSuffix (s p:ByteArray) (w:World) (hs:s.size≤9223372036854775807) :
 Calls Tryz.prog 44 #[.string s,.string p] w fun e w'=>e=.returned (.string ⟨(Lib.trimSuffix s.data.toList p.data.toList).toArray⟩)∧w'=w:=Any.strings_TrimSuffix Tryz.lays102 s p w hs
def Tryz.lays146_ren:Go.Shelf.Ren:=⟨fun | 146=>43 | 221=>68 | 268=>99 | 138=>100 | 143=>101 | 195=>162 | 197=>163 | 218=>164 | 219=>165 | 260=>282 | 217=>283 | 225=>284 | 224=>285 | 267=>286 | 266=>401 | 314=>402 | n=>n,fun | 9=>9 | 31=>60 | 3=>3 | 4=>4 | 0=>0 | 105=>276 | 21=>21 | 5=>5 | 46=>70 | 119=>560 | 139=>563 | 138=>562 | 146=>564 | 51=>450 | n=>n,fun | 1=>2 | 3=>4 | 4=>5 | n=>n⟩
theorem Tryz.lays146:Go.Proofs.Lays.n146 Tryz.prog Tryz.lays146_ren:={
 mixed:=by kernel_rfl
 f138:=Tryz.func100.trans (congrArg some (by kernel_rfl))
 f143:=Tryz.func101.trans (congrArg some (by kernel_rfl))
 f146:=Tryz.func43.trans (congrArg some (by kernel_rfl))
 f195:=Tryz.func162.trans (congrArg some (by kernel_rfl))
 f197:=Tryz.func163.trans (congrArg some (by kernel_rfl))
 f217:=Tryz.func283.trans (congrArg some (by kernel_rfl))
 f218:=Tryz.func164.trans (congrArg some (by kernel_rfl))
 f219:=Tryz.func165.trans (congrArg some (by kernel_rfl))
 f221:=Tryz.func68.trans (congrArg some (by kernel_rfl))
 f224:=Tryz.func285.trans (congrArg some (by kernel_rfl))
 f225:=Tryz.func284.trans (congrArg some (by kernel_rfl))
 f260:=Tryz.func282.trans (congrArg some (by kernel_rfl))
 f266:=Tryz.func401.trans (congrArg some (by kernel_rfl))
 f267:=Tryz.func286.trans (congrArg some (by kernel_rfl))
 f268:=Tryz.func99.trans (congrArg some (by kernel_rfl))
 f314:=Tryz.func402.trans (congrArg some (by kernel_rfl))
 t0:=Tryz.underlying0
 a0:=Tryz.isAgg0
 z0:=Tryz.sizeOf0
 v0:=Tryz.zeroValue0
 t3:=Tryz.underlying3
 a3:=Tryz.isAgg3
 z3:=Tryz.sizeOf3
 v3:=Tryz.zeroValue3
 t4:=Tryz.underlying4
 a4:=Tryz.isAgg4
 z4:=Tryz.sizeOf4
 v4:=Tryz.zeroValue4
 t5:=Tryz.underlying5
 a5:=Tryz.isAgg5
 z5:=Tryz.sizeOf5
 v5:=Tryz.zeroValue5
 t9:=Tryz.underlying9
 a9:=Tryz.isAgg9
 z9:=Tryz.sizeOf9
 v9:=Tryz.zeroValue9
 t21:=Tryz.underlying21
 a21:=Tryz.isAgg21
 z21:=Tryz.sizeOf21
 v21:=Tryz.zeroValue21
 t31:=Tryz.underlying60
 a31:=Tryz.isAgg60
 z31:=Tryz.sizeOf60
 v31:=Tryz.zeroValue60
 t46:=Tryz.underlying70
 a46:=Tryz.isAgg70
 z46:=Tryz.sizeOf70
 v46:=Tryz.zeroValue70
 t51:=Tryz.underlying450
 a51:=Tryz.isAgg450
 z51:=Tryz.sizeOf450
 v51:=Tryz.zeroValue450
 t105:=Tryz.underlying276
 a105:=Tryz.isAgg276
 z105:=Tryz.sizeOf276
 v105:=Tryz.zeroValue276
 t119:=Tryz.underlying560
 a119:=Tryz.isAgg560
 z119:=Tryz.sizeOf560
 t138:=Tryz.underlying562
 a138:=Tryz.isAgg562
 z138:=Tryz.sizeOf562
 v138:=Tryz.zeroValue562
 t139:=Tryz.underlying563
 a139:=Tryz.isAgg563
 z139:=Tryz.sizeOf563
 v139:=Tryz.zeroValue563
 t146:=Tryz.underlying564
 a146:=Tryz.isAgg564
 z146:=Tryz.sizeOf564
 v146:=Tryz.zeroValue564
 g1:=by kernel_rfl
 g3:=by kernel_rfl
 g4:=by kernel_rfl }
theorem Tryz.strings_Split (s sep:ByteArray) (m:Int) (w:World) (hs:s.size<4294967281) (hm:w.cell? ⟨2,0,none⟩=some (.int .i64 m)) (h1:1≤sep.size) :
 Calls Tryz.prog 43 #[.string s,.string sep] w fun e w' =>
  e=.returned (.slice (some ⟨w.heap.size,0,none⟩) (Lib.countB s sep+1) (Lib.countB s sep+1))∧w'=w.alloc (.cells ((Lib.splitB sep 0 (Lib.countB s sep) s).map Value.string).toArray 9):=Any.strings_Split Tryz.lays146 (by kernel_rfl) s sep m w hs hm h1
def Tryz.lays155_ren:Go.Shelf.Ren:=⟨fun | 155=>276 | 154=>392 | 138=>100 | 165=>62 | 143=>101 | 166=>60 | 197=>163 | 169=>61 | 195=>162 | 218=>164 | 240=>93 | 241=>94 | 219=>165 | 260=>282 | 276=>156 | 277=>157 | 217=>283 | 225=>284 | 224=>285 | 267=>286 | 266=>401 | 314=>402 | n=>n,fun | 9=>9 | 3=>3 | 4=>4 | 72=>135 | 0=>0 | 76=>139 | 105=>276 | 21=>21 | 5=>5 | 70=>133 | 20=>20 | 37=>91 | 75=>137 | 127=>176 | 164=>268 | 46=>70 | 119=>560 | 139=>563 | 138=>562 | 146=>564 | 51=>450 | 80=>141 | n=>n,fun | 1=>2 | 3=>4 | 4=>5 | n=>n⟩
theorem Tryz.lays155:Go.Proofs.Lays.n155 Tryz.prog Tryz.lays155_ren:={
 mixed:=by kernel_rfl
 f138:=Tryz.func100.trans (congrArg some (by kernel_rfl))
 f143:=Tryz.func101.trans (congrArg some (by kernel_rfl))
 f154:=Tryz.func392.trans (congrArg some (by kernel_rfl))
 f155:=Tryz.func276.trans (congrArg some (by kernel_rfl))
 f165:=Tryz.func62.trans (congrArg some (by kernel_rfl))
 f166:=Tryz.func60.trans (congrArg some (by kernel_rfl))
 f169:=Tryz.func61.trans (congrArg some (by kernel_rfl))
 f195:=Tryz.func162.trans (congrArg some (by kernel_rfl))
 f197:=Tryz.func163.trans (congrArg some (by kernel_rfl))
 f217:=Tryz.func283.trans (congrArg some (by kernel_rfl))
 f218:=Tryz.func164.trans (congrArg some (by kernel_rfl))
 f219:=Tryz.func165.trans (congrArg some (by kernel_rfl))
 f224:=Tryz.func285.trans (congrArg some (by kernel_rfl))
 f225:=Tryz.func284.trans (congrArg some (by kernel_rfl))
 f240:=Tryz.func93.trans (congrArg some (by kernel_rfl))
 f241:=Tryz.func94.trans (congrArg some (by kernel_rfl))
 f260:=Tryz.func282.trans (congrArg some (by kernel_rfl))
 f266:=Tryz.func401.trans (congrArg some (by kernel_rfl))
 f267:=Tryz.func286.trans (congrArg some (by kernel_rfl))
 f276:=Tryz.func156.trans (congrArg some (by kernel_rfl))
 f277:=Tryz.func157.trans (congrArg some (by kernel_rfl))
 f314:=Tryz.func402.trans (congrArg some (by kernel_rfl))
 t0:=Tryz.underlying0
 a0:=Tryz.isAgg0
 z0:=Tryz.sizeOf0
 v0:=Tryz.zeroValue0
 t3:=Tryz.underlying3
 a3:=Tryz.isAgg3
 z3:=Tryz.sizeOf3
 v3:=Tryz.zeroValue3
 t4:=Tryz.underlying4
 a4:=Tryz.isAgg4
 z4:=Tryz.sizeOf4
 v4:=Tryz.zeroValue4
 t5:=Tryz.underlying5
 a5:=Tryz.isAgg5
 z5:=Tryz.sizeOf5
 v5:=Tryz.zeroValue5
 t9:=Tryz.underlying9
 a9:=Tryz.isAgg9
 z9:=Tryz.sizeOf9
 v9:=Tryz.zeroValue9
 t20:=Tryz.underlying20
 a20:=Tryz.isAgg20
 z20:=Tryz.sizeOf20
 v20:=Tryz.zeroValue20
 t21:=Tryz.underlying21
 a21:=Tryz.isAgg21
 z21:=Tryz.sizeOf21
 v21:=Tryz.zeroValue21
 t37:=Tryz.underlying91
 a37:=Tryz.isAgg91
 z37:=Tryz.sizeOf91
 v37:=Tryz.zeroValue91
 t46:=Tryz.underlying70
 a46:=Tryz.isAgg70
 z46:=Tryz.sizeOf70
 v46:=Tryz.zeroValue70
 t51:=Tryz.underlying450
 a51:=Tryz.isAgg450
 z51:=Tryz.sizeOf450
 v51:=Tryz.zeroValue450
 t70:=Tryz.underlying133
 a70:=Tryz.isAgg133
 z70:=Tryz.sizeOf133
 v70:=Tryz.zeroValue133
 t72:=Tryz.underlying135
 a72:=Tryz.isAgg135
 z72:=Tryz.sizeOf135
 v72:=Tryz.zeroValue135
 t75:=Tryz.underlying137
 a75:=Tryz.isAgg137
 z75:=Tryz.sizeOf137
 v75:=Tryz.zeroValue137
 t76:=Tryz.underlying139
 a76:=Tryz.isAgg139
 z76:=Tryz.sizeOf139
 v76:=Tryz.zeroValue139
 t105:=Tryz.underlying276
 a105:=Tryz.isAgg276
 z105:=Tryz.sizeOf276
 v105:=Tryz.zeroValue276
 t119:=Tryz.underlying560
 a119:=Tryz.isAgg560
 z119:=Tryz.sizeOf560
 t127:=Tryz.underlying176
 a127:=Tryz.isAgg176
 z127:=Tryz.sizeOf176
 v127:=Tryz.zeroValue176
 t138:=Tryz.underlying562
 a138:=Tryz.isAgg562
 z138:=Tryz.sizeOf562
 v138:=Tryz.zeroValue562
 t139:=Tryz.underlying563
 a139:=Tryz.isAgg563
 z139:=Tryz.sizeOf563
 v139:=Tryz.zeroValue563
 t146:=Tryz.underlying564
 a146:=Tryz.isAgg564
 z146:=Tryz.sizeOf564
 v146:=Tryz.zeroValue564
 t164:=Tryz.underlying268
 a164:=Tryz.isAgg268
 z164:=Tryz.sizeOf268
 v164:=Tryz.zeroValue268
 g1:=by kernel_rfl
 g3:=by kernel_rfl
 g4:=by kernel_rfl }
theorem Tryz.Builder_Extra_155:Builder.Extra Tryz.prog Tryz.lays155_ren:={
 sizeBuilder:=by kernel_rfl
 liesBuilder:=by kernel_rfl
 t5:=Tryz.underlying5
 a5:=Tryz.isAgg5
 z5:=Tryz.sizeOf5
 v5:=Tryz.zeroValue5
 infoByte:=by kernel_rfl
 cellsByte:=by kernel_rfl
 sizeByte:=by kernel_rfl
 neB5:=by decide }
theorem Tryz.strings_ReplaceAll (s old new:ByteArray) (m:Int) (w:World) (hs:s.size<4294967281) (hm:w.cell? ⟨2,0,none⟩=some (.int .i64 m)) (h1:1≤old.size) (hlen:s.size+Lib.countB s old * new.size≤140737488355328) :
 Calls Tryz.prog 276 #[.string s,.string old,.string new] w fun e w' =>
  e=.returned (.string ⟨(Lib.replaceAll s.data.toList old.data.toList new.data.toList).toArray⟩)∧Below w.heap.size w w':=Any.strings_ReplaceAll Tryz.lays155 Tryz.Builder_Extra_155 s old new m w hs hm h1 hlen
def Tryz.lays167_ren:Go.Shelf.Ren:=⟨fun | 167=>59 | 240=>93 | 276=>156 | n=>n,fun | 0=>0 | 3=>3 | 4=>4 | 5=>5 | 9=>9 | 20=>20 | 37=>91 | 70=>133 | 72=>135 | 75=>137 | 80=>141 | 164=>268 | n=>n,fun | n=>n⟩
theorem Tryz.lays167:Go.Proofs.Lays.n167 Tryz.prog Tryz.lays167_ren:={
 mixed:=by kernel_rfl
 f167:=Tryz.func59.trans (congrArg some (by kernel_rfl))
 f240:=Tryz.func93.trans (congrArg some (by kernel_rfl))
 f276:=Tryz.func156.trans (congrArg some (by kernel_rfl))
 t0:=Tryz.underlying0
 a0:=Tryz.isAgg0
 z0:=Tryz.sizeOf0
 v0:=Tryz.zeroValue0
 t4:=Tryz.underlying4
 a4:=Tryz.isAgg4
 z4:=Tryz.sizeOf4
 v4:=Tryz.zeroValue4
 t5:=Tryz.underlying5
 a5:=Tryz.isAgg5
 z5:=Tryz.sizeOf5
 v5:=Tryz.zeroValue5
 t9:=Tryz.underlying9
 a9:=Tryz.isAgg9
 z9:=Tryz.sizeOf9
 v9:=Tryz.zeroValue9
 t20:=Tryz.underlying20
 a20:=Tryz.isAgg20
 z20:=Tryz.sizeOf20
 v20:=Tryz.zeroValue20
 t37:=Tryz.underlying91
 a37:=Tryz.isAgg91
 z37:=Tryz.sizeOf91
 v37:=Tryz.zeroValue91
 t70:=Tryz.underlying133
 a70:=Tryz.isAgg133
 z70:=Tryz.sizeOf133
 v70:=Tryz.zeroValue133
 t72:=Tryz.underlying135
 a72:=Tryz.isAgg135
 z72:=Tryz.sizeOf135
 v72:=Tryz.zeroValue135
 t75:=Tryz.underlying137
 a75:=Tryz.isAgg137
 z75:=Tryz.sizeOf137
 v75:=Tryz.zeroValue137
 t164:=Tryz.underlying268
 a164:=Tryz.isAgg268
 z164:=Tryz.sizeOf268
 v164:=Tryz.zeroValue268 }
theorem Tryz.Builder_Extra_167:Builder.Extra Tryz.prog Tryz.lays167_ren:={
 sizeBuilder:=by kernel_rfl
 liesBuilder:=by kernel_rfl
 t5:=Tryz.underlying5
 a5:=Tryz.isAgg5
 z5:=Tryz.sizeOf5
 v5:=Tryz.zeroValue5
 infoByte:=by kernel_rfl
 cellsByte:=by kernel_rfl
 sizeByte:=by kernel_rfl
 neB5:=by decide }
def Tryz.lays166_ren:Go.Shelf.Ren:=⟨fun | 166=>60 | 240=>93 | 276=>156 | n=>n,fun | 0=>0 | 3=>3 | 4=>4 | 5=>5 | 9=>9 | 20=>20 | 37=>91 | 70=>133 | 72=>135 | 75=>137 | 80=>141 | 164=>268 | n=>n,fun | n=>n⟩
theorem Tryz.lays166:Go.Proofs.Lays.n166 Tryz.prog Tryz.lays166_ren:={
 mixed:=by kernel_rfl
 f166:=Tryz.func60.trans (congrArg some (by kernel_rfl))
 f240:=Tryz.func93.trans (congrArg some (by kernel_rfl))
 f276:=Tryz.func156.trans (congrArg some (by kernel_rfl))
 t0:=Tryz.underlying0
 a0:=Tryz.isAgg0
 z0:=Tryz.sizeOf0
 v0:=Tryz.zeroValue0
 t3:=Tryz.underlying3
 a3:=Tryz.isAgg3
 z3:=Tryz.sizeOf3
 v3:=Tryz.zeroValue3
 t4:=Tryz.underlying4
 a4:=Tryz.isAgg4
 z4:=Tryz.sizeOf4
 v4:=Tryz.zeroValue4
 t9:=Tryz.underlying9
 a9:=Tryz.isAgg9
 z9:=Tryz.sizeOf9
 v9:=Tryz.zeroValue9
 t20:=Tryz.underlying20
 a20:=Tryz.isAgg20
 z20:=Tryz.sizeOf20
 v20:=Tryz.zeroValue20
 t37:=Tryz.underlying91
 a37:=Tryz.isAgg91
 z37:=Tryz.sizeOf91
 v37:=Tryz.zeroValue91
 t70:=Tryz.underlying133
 a70:=Tryz.isAgg133
 z70:=Tryz.sizeOf133
 v70:=Tryz.zeroValue133
 t72:=Tryz.underlying135
 a72:=Tryz.isAgg135
 z72:=Tryz.sizeOf135
 v72:=Tryz.zeroValue135
 t75:=Tryz.underlying137
 a75:=Tryz.isAgg137
 z75:=Tryz.sizeOf137
 v75:=Tryz.zeroValue137
 t164:=Tryz.underlying268
 a164:=Tryz.isAgg268
 z164:=Tryz.sizeOf268
 v164:=Tryz.zeroValue268 }
theorem Tryz.Builder_Extra_166:Builder.Extra Tryz.prog Tryz.lays166_ren:={
 sizeBuilder:=by kernel_rfl
 liesBuilder:=by kernel_rfl
 t5:=Tryz.underlying5
 a5:=Tryz.isAgg5
 z5:=Tryz.sizeOf5
 v5:=Tryz.zeroValue5
 infoByte:=by kernel_rfl
 cellsByte:=by kernel_rfl
 sizeByte:=by kernel_rfl
 neB5:=by decide }
theorem Tryz.Builder_WriteByte (B b:Nat) (bs:List Value) (c:Int) (w:World) (h:Lib.IsBuilder 135 5 B b bs w) (hlen:bs.length+1≤140737488355328) (hBw:B≤w.heap.size) :
 Calls Tryz.prog 59 #[.pointer (some ⟨b,0,none⟩),.int .u8 c] w fun e w'=>e=.returned .nilIface∧(Lib.BuilderAt 135 5 B b (.pointer (some ⟨b,0,none⟩)) (bs ++ [.int .u8 c]) w'∧Below B w w'):=Any.Builder_WriteByte Tryz.lays167 Tryz.Builder_Extra_167 B b bs c w h hlen hBw
theorem Tryz.Builder_WriteString (B b:Nat) (bs:List Value) (s:ByteArray) (w:World) (h:Lib.IsBuilder 135 5 B b bs w) (hlen:bs.length+s.size≤140737488355328) (hBw:B≤w.heap.size) :
 Calls Tryz.prog 60 #[.pointer (some ⟨b,0,none⟩),.string s] w fun e w'=>e=.returned (.tuple #[.int .i64 s.size,.nilIface])∧(Lib.BuilderAt 135 5 B b (.pointer (some ⟨b,0,none⟩)) (bs ++ Lib.strCells s) w'∧Below B w w'):=Any.Builder_WriteString Tryz.lays166 Tryz.Builder_Extra_166 B b bs s w h hlen hBw
theorem Tryz.Builder_String_any_f (B b:Nat) (l:List UInt8) (w:World) (h:Lib.IsBuilderF 135 5 B b (Lib.byteCells l) w) (hBw:B≤w.heap.size) :
 Calls Tryz.prog 61 #[.pointer (some ⟨b,0,none⟩)] w fun e w'=>e=.returned (.string ⟨l.toArray⟩)∧(Lib.IsBuilderF 135 5 B b (Lib.byteCells l) w'∧Below B w w'):=Any.Builder_String_any_f Tryz.lays169 Tryz.Builder_Extra_169 B b l w h hBw
end Go.Proofs
