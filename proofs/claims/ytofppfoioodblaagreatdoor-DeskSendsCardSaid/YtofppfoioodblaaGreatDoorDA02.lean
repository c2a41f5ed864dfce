/- PARTS OF THE PROOF. -/
import Derived.Shelf.Strings.Builder1
import Derived.Shelf.Strings.Builder2
import Derived.Shelf.Strings.OnBuilder
import Derived.Shelf.Small.Bits
import Derived.Shelf.Small.Wraps
import Derived.Shelf.Utf8.RuneCount
import Derived.Shelf.Strconv.Atoi
import Derived.Shelf.Strconv.Itoa0
import Derived.Shelf.Strconv.Itoa1
import Derived.Shelf.LaysM
import Derived.Shelf.Strconv.Itoa2
import Derived.Shelf.Strconv.Itoa3
import Derived.Shelf.Strconv.AtoiErrFast
import Derived.Shelf.Strconv.ParseIntEmpty
import Derived.Shelf.Strconv.AtoiFail
import Derived.Shelf.Strconv.Clone
import Derived.Shelf.Strconv.SyntaxError
import Derived.Shelf.LaysC
import Derived.Shelf.Strconv.ToError
import Derived.Shelf.Strconv.AtoiErr
import Derived.Shelf.Strconv.ErrVar
import Derived.Shelf.Strconv.Lower
import Derived.Shelf.Strconv.ParseUint10
import Derived.Shelf.Strconv.ParseUint10Empty
import Derived.Shelf.Strconv.ParseUint10Any
import Derived.Shelf.Strconv.ParseInt10
import Derived.Shelf.Strconv.AtoiLong
import Derived.Shelf.Strconv.AtoiInnerAll
import Derived.Shelf.Strconv.RangeError
import Derived.Shelf.Strconv.ToErrorRange
import Derived.Shelf.Strconv.AtoiAll
import Derived.Shelf.Strconv.ErrVarAll
import Derived.Shelf.Strconv.ParseUintEmpty
import Derived.Shelf.Strconv.ParseUint10b64
import Derived.Shelf.Strconv.ParseUint10b32
import Derived.Shelf.Strconv.ParseUint10b16
import Derived.Shelf.Strconv.ParseUint10b8
import Derived.Shelf.Strconv.ParseUint10At
import Derived.Shelf.Strconv.ParseInt10At64
import Derived.Shelf.Strconv.ParseInt10At32
import Derived.Shelf.Strconv.ParseInt10At16
import Derived.Shelf.Strconv.ParseInt10At8
import Derived.Shelf.Strconv.ParseInt10All
import Derived.Shelf.Strings.Search1
import Derived.Shelf.Strings.Search2
import Derived.Shelf.Strings.Search3
import Derived.Shelf.Strings.Count
import Derived.Shelf.Strings.Shaped
import Derived.Shelf.Strings.Prefix
import Derived.Shelf.Strings.Split
import Derived.Shelf.Strings.SplitShaped
import Derived.Shelf.Unicode.Decode
import Derived.Shelf.Strings.RuneCount
import Derived.Shelf.Strings.Explode
import Derived.Shelf.Unicode.DecodeSlow
import Derived.Shelf.Unicode.DecodeAny
import Derived.Shelf.Slices.Turned
import Derived.Ground.Names2Prog
import Derived.Shelf.Slices.Clone
import Derived.Shelf.Slices.SearchI
import Derived.Stop.Asserts
import Derived.Deep.RegionWith
import Derived.Lib.Split
import Derived.Lib.IndexBytes
import Derived.Lib.SplitLaws
import Derived.Lib.ItoaNum
import Derived.Lib.Join
import Derived.Lib.Strings
import Derived.Test.YtofppfoioodblaaGreatDoorDA01
set_option maxRecDepth 8000
set_option maxHeartbeats 4000000
namespace Go.Proofs
open Go.Shelf
def Tryz.lays156_ren:Go.Shelf.Ren:=⟨λ|156=>138|165=>179|166=>180|169=>181|240=>234|241=>235|276=>293|277=>294|n=>n,λ|31=>107|9=>9|3=>3|4=>4|0=>0|20=>20|72=>291|76=>277|70=>289|37=>49|75=>253|127=>371|164=>433|5=>5|80=>268|n=>n,λ|n=>n⟩
theorem Tryz.lays156:Go.Proofs.Lays.n156 Tryz.prog Tryz.lays156_ren:={
 mixed:=by kernel_rfl
 f156:=Tryz.func138.trans (congrArg some (by kernel_rfl))
 f165:=Tryz.func179.trans (congrArg some (by kernel_rfl))
 f166:=Tryz.func180.trans (congrArg some (by kernel_rfl))
 f169:=Tryz.func181.trans (congrArg some (by kernel_rfl))
 f240:=Tryz.func234.trans (congrArg some (by kernel_rfl))
 f241:=Tryz.func235.trans (congrArg some (by kernel_rfl))
 f276:=Tryz.func293.trans (congrArg some (by kernel_rfl))
 f277:=Tryz.func294.trans (congrArg some (by kernel_rfl))
 t0:=Tryz.underlying0
 a0:=Tryz.isAgg0
 z0:=Tryz.sizeOf0
 v0:=Tryz.zeroValue0
 t3:=Tryz.underlying3
 a3:=Tryz.isAgg3
 z3:=Tryz.sizeOf3
 v3:=Tryz.zeroValue3
 t4:=Tryz.underlying4
 a4:=Tryz.isAgg4
 z4:=Tryz.sizeOf4
 v4:=Tryz.zeroValue4
 t9:=Tryz.underlying9
 a9:=Tryz.isAgg9
 z9:=Tryz.sizeOf9
 v9:=Tryz.zeroValue9
 t20:=Tryz.underlying20
 a20:=Tryz.isAgg20
 z20:=Tryz.sizeOf20
 v20:=Tryz.zeroValue20
 t31:=Tryz.underlying107
 a31:=Tryz.isAgg107
 z31:=Tryz.sizeOf107
 v31:=Tryz.zeroValue107
 t37:=Tryz.underlying49
 a37:=Tryz.isAgg49
 z37:=Tryz.sizeOf49
 v37:=Tryz.zeroValue49
 t70:=Tryz.underlying289
 a70:=Tryz.isAgg289
 z70:=Tryz.sizeOf289
 v70:=Tryz.zeroValue289
 t72:=Tryz.underlying291
 a72:=Tryz.isAgg291
 z72:=Tryz.sizeOf291
 v72:=Tryz.zeroValue291
 t75:=Tryz.underlying253
 a75:=Tryz.isAgg253
 z75:=Tryz.sizeOf253
 v75:=Tryz.zeroValue253
 t76:=Tryz.underlying277
 a76:=Tryz.isAgg277
 z76:=Tryz.sizeOf277
 v76:=Tryz.zeroValue277
 t127:=Tryz.underlying371
 a127:=Tryz.isAgg371
 z127:=Tryz.sizeOf371
 v127:=Tryz.zeroValue371
 t164:=Tryz.underlying433
 a164:=Tryz.isAgg433
 z164:=Tryz.sizeOf433
 v164:=Tryz.zeroValue433}
theorem Tryz.Builder_Extra_156:Builder.Extra Tryz.prog Tryz.lays156_ren:={
 sizeBuilder:=by kernel_rfl
 liesBuilder:=by kernel_rfl
 t5:=Tryz.underlying5
 a5:=Tryz.isAgg5
 z5:=Tryz.sizeOf5
 v5:=Tryz.zeroValue5
 infoByte:=by kernel_rfl
 cellsByte:=by kernel_rfl
 sizeByte:=by kernel_rfl
 neB5:=by decide}
open Go.RowKit in
theorem Tryz.strings_Join(bk o c:Nat)(xs:List ByteArray)(sep:ByteArray)(w:World)(hcells:∀(j:Nat) x,xs[j]?=some x->w.cell? ⟨bk,o+j,none⟩=some (.string x))(hbk:bk<w.heap.size)(hN:xs.length<=140737488355328)(hcap:xs.length<=c)(hlen:(Lib.join (xs.map (·.data.toList)) sep.data.toList).length<=140737488355328):
 Calls Tryz.prog 138 #[.slice (some ⟨bk,o,none⟩) xs.length c,.string sep] w λe w'=>e=.returned (.string ⟨(Lib.join (xs.map (·.data.toList)) sep.data.toList).toArray⟩)/\Below w.heap.size w w':=Any.strings_Join Tryz.lays156 Tryz.Builder_Extra_156 bk o c xs sep w hcells hbk hN hcap hlen
def Tryz.lays125_ren:Go.Shelf.Ren:=⟨λ|125=>331|128=>352|129=>324|n=>n,λ|46=>33|3=>3|51=>35|53=>52|4=>4|5=>5|9=>9|n=>n,λ|n=>n⟩
theorem Tryz.lays125:Go.Proofs.Lays.n125 Tryz.prog Tryz.lays125_ren:={
 mixed:=by kernel_rfl
 f125:=Tryz.func331.trans (congrArg some (by kernel_rfl))
 f128:=Tryz.func352.trans (congrArg some (by kernel_rfl))
 f129:=Tryz.func324.trans (congrArg some (by kernel_rfl))
 t3:=Tryz.underlying3
 a3:=Tryz.isAgg3
 z3:=Tryz.sizeOf3
 v3:=Tryz.zeroValue3
 t4:=Tryz.underlying4
 a4:=Tryz.isAgg4
 z4:=Tryz.sizeOf4
 v4:=Tryz.zeroValue4
 t5:=Tryz.underlying5
 a5:=Tryz.isAgg5
 z5:=Tryz.sizeOf5
 v5:=Tryz.zeroValue5
 t9:=Tryz.underlying9
 a9:=Tryz.isAgg9
 z9:=Tryz.sizeOf9
 v9:=Tryz.zeroValue9
 t46:=Tryz.underlying33
 a46:=Tryz.isAgg33
 z46:=Tryz.sizeOf33
 v46:=Tryz.zeroValue33
 t51:=Tryz.underlying35
 a51:=Tryz.isAgg35
 z51:=Tryz.sizeOf35
 v51:=Tryz.zeroValue35
 t53:=Tryz.underlying52
 a53:=Tryz.isAgg52
 z53:=Tryz.sizeOf52
 v53:=Tryz.zeroValue52}
theorem Tryz.bits_Len(x:Int)(w:World)(h0:0<=x)(h1:x<=18446744073709551615):
 Calls Tryz.prog 331 #[.int .u64 x] w λe w'=>e=.returned (.int .i64 (Lib.bitLen x.toNat))/\w'=w:=Any.bits_Len Tryz.lays125 x w h0 h1
def Tryz.lays103_ren:Go.Shelf.Ren:=⟨λ|103=>290|210=>329|206=>168|n=>n,λ|9=>9|4=>4|24=>167|3=>3|n=>n,λ|n=>n⟩
theorem Tryz.lays103:Go.Proofs.Lays.n103 Tryz.prog Tryz.lays103_ren:={
 mixed:=by kernel_rfl
 f103:=Tryz.func290.trans (congrArg some (by kernel_rfl))
 f206:=Tryz.func168.trans (congrArg some (by kernel_rfl))
 f210:=Tryz.func329.trans (congrArg some (by kernel_rfl))
 t3:=Tryz.underlying3
 a3:=Tryz.isAgg3
 z3:=Tryz.sizeOf3
 v3:=Tryz.zeroValue3
 t4:=Tryz.underlying4
 a4:=Tryz.isAgg4
 z4:=Tryz.sizeOf4
 v4:=Tryz.zeroValue4
 t9:=Tryz.underlying9
 a9:=Tryz.isAgg9
 z9:=Tryz.sizeOf9
 v9:=Tryz.zeroValue9
 t24:=Tryz.underlying167
 a24:=Tryz.isAgg167
 z24:=Tryz.sizeOf167
 v24:=Tryz.zeroValue167}
open Go.RowKit in
theorem Tryz.strings_CutPrefix(s p:ByteArray)(w:World):
 Calls Tryz.prog 290 #[.string s,.string p] w λe w'=>e=.returned (.tuple #[.string ⟨(Lib.trimPrefix s.data.toList p.data.toList).toArray⟩,.bool (Lib.hasPrefix s.data.toList p.data.toList)])/\w'=w:=Any.strings_CutPrefix Tryz.lays103 s p w
def Tryz.lays104_ren:Go.Shelf.Ren:=⟨λ|104=>287|211=>328|207=>343|n=>n,λ|9=>9|4=>4|24=>167|3=>3|n=>n,λ|n=>n⟩
theorem Tryz.lays104:Go.Proofs.Lays.n104 Tryz.prog Tryz.lays104_ren:={
 mixed:=by kernel_rfl
 f104:=Tryz.func287.trans (congrArg some (by kernel_rfl))
 f207:=Tryz.func343.trans (congrArg some (by kernel_rfl))
 f211:=Tryz.func328.trans (congrArg some (by kernel_rfl))
 t3:=Tryz.underlying3
 a3:=Tryz.isAgg3
 z3:=Tryz.sizeOf3
 v3:=Tryz.zeroValue3
 t4:=Tryz.underlying4
 a4:=Tryz.isAgg4
 z4:=Tryz.sizeOf4
 v4:=Tryz.zeroValue4
 t9:=Tryz.underlying9
 a9:=Tryz.isAgg9
 z9:=Tryz.sizeOf9
 v9:=Tryz.zeroValue9
 t24:=Tryz.underlying167
 a24:=Tryz.isAgg167
 z24:=Tryz.sizeOf167
 v24:=Tryz.zeroValue167}
open Go.RowKit in
theorem Tryz.strings_CutSuffix(s p:ByteArray)(w:World)(hs:s.size<=9223372036854775807):
 Calls Tryz.prog 287 #[.string s,.string p] w λe w'=>e=.returned (.tuple #[.string ⟨(Lib.trimSuffix s.data.toList p.data.toList).toArray⟩,.bool (Lib.hasSuffix s.data.toList p.data.toList)])/\w'=w:=Any.strings_CutSuffix Tryz.lays104 s p w hs
def Tryz.lays122_ren:Go.Shelf.Ren:=⟨λ|122=>333|215=>353|n=>n,λ|3=>3|4=>4|n=>n,λ|n=>n⟩
theorem Tryz.lays122:Go.Proofs.Lays.n122 Tryz.prog Tryz.lays122_ren:={
 mixed:=by kernel_rfl
 f122:=Tryz.func333.trans (congrArg some (by kernel_rfl))
 f215:=Tryz.func353.trans (congrArg some (by kernel_rfl))
 t3:=Tryz.underlying3
 a3:=Tryz.isAgg3
 z3:=Tryz.sizeOf3
 v3:=Tryz.zeroValue3
 t4:=Tryz.underlying4
 a4:=Tryz.isAgg4
 z4:=Tryz.sizeOf4
 v4:=Tryz.zeroValue4}
open Go.RowKit in
theorem Tryz.cmp_Compare_int(x y:Int)(w:World):
 Calls Tryz.prog 333 #[.int .i64 x,.int .i64 y] w λe w'=>e=.returned (.int .i64 (Lib.compareInt x y))/\w'=w:=Any.cmp_Compare_int Tryz.lays122 x y w
def Tryz.lays171_ren:Go.Shelf.Ren:=⟨λ|171=>129|243=>171|246=>228|283=>279|284=>280|285=>281|286=>282|129=>324|317=>323|318=>325|319=>326|320=>327|337=>341|338=>342|n=>n,λ|3=>3|9=>9|2=>2|4=>4|171=>424|0=>0|53=>52|37=>49|5=>5|173=>427|212=>468|51=>35|20=>20|213=>469|46=>33|232=>497|233=>498|n=>n,λ|17=>6|18=>9|19=>10|n=>n⟩
theorem Tryz.lays171:Go.Proofs.Lays.n171 Tryz.prog Tryz.lays171_ren:={
 mixed:=by kernel_rfl
 f129:=Tryz.func324.trans (congrArg some (by kernel_rfl))
 f171:=Tryz.func129.trans (congrArg some (by kernel_rfl))
 f243:=Tryz.func171.trans (congrArg some (by kernel_rfl))
 f246:=Tryz.func228.trans (congrArg some (by kernel_rfl))
 f283:=Tryz.func279.trans (congrArg some (by kernel_rfl))
 f284:=Tryz.func280.trans (congrArg some (by kernel_rfl))
 f285:=Tryz.func281.trans (congrArg some (by kernel_rfl))
 f286:=Tryz.func282.trans (congrArg some (by kernel_rfl))
 f317:=Tryz.func323.trans (congrArg some (by kernel_rfl))
 f318:=Tryz.func325.trans (congrArg some (by kernel_rfl))
 f319:=Tryz.func326.trans (congrArg some (by kernel_rfl))
 f320:=Tryz.func327.trans (congrArg some (by kernel_rfl))
 f337:=Tryz.func341.trans (congrArg some (by kernel_rfl))
 f338:=Tryz.func342.trans (congrArg some (by kernel_rfl))
 t0:=Tryz.underlying0
 a0:=Tryz.isAgg0
 z0:=Tryz.sizeOf0
 v0:=Tryz.zeroValue0
 t2:=Tryz.underlying2
 a2:=Tryz.isAgg2
 z2:=Tryz.sizeOf2
 v2:=Tryz.zeroValue2
 t3:=Tryz.underlying3
 a3:=Tryz.isAgg3
 z3:=Tryz.sizeOf3
 v3:=Tryz.zeroValue3
 t4:=Tryz.underlying4
 a4:=Tryz.isAgg4
 z4:=Tryz.sizeOf4
 v4:=Tryz.zeroValue4
 t5:=Tryz.underlying5
 a5:=Tryz.isAgg5
 z5:=Tryz.sizeOf5
 v5:=Tryz.zeroValue5
 t9:=Tryz.underlying9
 a9:=Tryz.isAgg9
 z9:=Tryz.sizeOf9
 v9:=Tryz.zeroValue9
 t20:=Tryz.underlying20
 a20:=Tryz.isAgg20
 z20:=Tryz.sizeOf20
 v20:=Tryz.zeroValue20
 t37:=Tryz.underlying49
 a37:=Tryz.isAgg49
 z37:=Tryz.sizeOf49
 v37:=Tryz.zeroValue49
 t46:=Tryz.underlying33
 a46:=Tryz.isAgg33
 z46:=Tryz.sizeOf33
 v46:=Tryz.zeroValue33
 t51:=Tryz.underlying35
 a51:=Tryz.isAgg35
 z51:=Tryz.sizeOf35
 v51:=Tryz.zeroValue35
 t53:=Tryz.underlying52
 a53:=Tryz.isAgg52
 z53:=Tryz.sizeOf52
 v53:=Tryz.zeroValue52
 t171:=Tryz.underlying424
 a171:=Tryz.isAgg424
 z171:=Tryz.sizeOf424
 v171:=Tryz.zeroValue424
 t173:=Tryz.underlying427
 a173:=Tryz.isAgg427
 z173:=Tryz.sizeOf427
 v173:=Tryz.zeroValue427
 t212:=Tryz.underlying468
 a212:=Tryz.isAgg468
 z212:=Tryz.sizeOf468
 v212:=Tryz.zeroValue468
 t213:=Tryz.underlying469
 a213:=Tryz.isAgg469
 z213:=Tryz.sizeOf469
 t232:=Tryz.underlying497
 a232:=Tryz.isAgg497
 z232:=Tryz.sizeOf497
 v232:=Tryz.zeroValue497
 t233:=Tryz.underlying498
 a233:=Tryz.isAgg498
 z233:=Tryz.sizeOf498
 v233:=Tryz.zeroValue498
 g17:=by kernel_rfl
 g18:=by kernel_rfl
 g19:=by kernel_rfl}
open Go.RowKit Go.Sort Go.Lib in
theorem Tryz.strconv_Itoa_small(i:Nat)(hi:i<100)(w:World):
 Calls Tryz.prog 129 #[.int .i64 i] w λe w'=>e=.returned (.string ⟨(Lib.decDigits i).toArray⟩)/\w'=w:=Any.strconv_Itoa_small Tryz.lays171 i hi w
def Tryz.laysC172_ren:Go.Shelf.Ren:=⟨λ|172=>169|244=>223|245=>224|247=>272|279=>273|280=>274|281=>275|282=>276|287=>319|316=>320|171=>129|205=>321|321=>339|322=>340|243=>171|246=>228|283=>279|284=>280|285=>281|286=>282|129=>324|317=>323|318=>325|319=>326|320=>327|337=>341|338=>342|n=>n,λ|9=>9|3=>3|75=>253|76=>277|4=>4|5=>5|167=>416|37=>49|0=>0|85=>417|2=>2|168=>419|53=>52|175=>461|46=>33|210=>464|127=>371|145=>485|143=>483|21=>21|171=>424|173=>427|212=>468|51=>35|20=>20|213=>469|232=>497|233=>498|80=>268|n=>n,λ|15=>4|16=>5|17=>6|18=>9|19=>10|n=>n⟩
theorem Tryz.laysC172:Go.Proofs.LaysC.n172 Tryz.prog Tryz.laysC172_ren:={
 mixed:=by kernel_rfl
 f129:=Tryz.func324.trans (congrArg some (by kernel_rfl))
 f171:=Tryz.func129.trans (congrArg some (by kernel_rfl))
 f172:=Tryz.func169.trans (congrArg some (by kernel_rfl))
 f205:=Tryz.func321.trans (congrArg some (by kernel_rfl))
 f243:=Tryz.func171.trans (congrArg some (by kernel_rfl))
 f244:=Tryz.func223.trans (congrArg some (by kernel_rfl))
 f245:=Tryz.func224.trans (congrArg some (by kernel_rfl))
 f246:=Tryz.func228.trans (congrArg some (by kernel_rfl))
 f247:=Tryz.func272.trans (congrArg some (by kernel_rfl))
 f279:=Tryz.func273.trans (congrArg some (by kernel_rfl))
 f280:=Tryz.func274.trans (congrArg some (by kernel_rfl))
 f281:=Tryz.func275.trans (congrArg some (by kernel_rfl))
 f282:=Tryz.func276.trans (congrArg some (by kernel_rfl))
 f283:=Tryz.func279.trans (congrArg some (by kernel_rfl))
 f284:=Tryz.func280.trans (congrArg some (by kernel_rfl))
 f285:=Tryz.func281.trans (congrArg some (by kernel_rfl))
 f286:=Tryz.func282.trans (congrArg some (by kernel_rfl))
 f287:=Tryz.func319.trans (congrArg some (by kernel_rfl))
 f316:=Tryz.func320.trans (congrArg some (by kernel_rfl))
 f317:=Tryz.func323.trans (congrArg some (by kernel_rfl))
 f318:=Tryz.func325.trans (congrArg some (by kernel_rfl))
 f319:=Tryz.func326.trans (congrArg some (by kernel_rfl))
 f320:=Tryz.func327.trans (congrArg some (by kernel_rfl))
 f321:=Tryz.func339.trans (congrArg some (by kernel_rfl))
 f322:=Tryz.func340.trans (congrArg some (by kernel_rfl))
 f337:=Tryz.func341.trans (congrArg some (by kernel_rfl))
 f338:=Tryz.func342.trans (congrArg some (by kernel_rfl))
 t0:=Tryz.underlying0
 a0:=Tryz.isAgg0
 z0:=Tryz.sizeOf0
 v0:=Tryz.zeroValue0
 t2:=Tryz.underlying2
 a2:=Tryz.isAgg2
 z2:=Tryz.sizeOf2
 v2:=Tryz.zeroValue2
 t3:=Tryz.underlying3
 a3:=Tryz.isAgg3
 z3:=Tryz.sizeOf3
 v3:=Tryz.zeroValue3
 t4:=Tryz.underlying4
 a4:=Tryz.isAgg4
 z4:=Tryz.sizeOf4
 v4:=Tryz.zeroValue4
 t5:=Tryz.underlying5
 a5:=Tryz.isAgg5
 z5:=Tryz.sizeOf5
 v5:=Tryz.zeroValue5
 t9:=Tryz.underlying9
 a9:=Tryz.isAgg9
 z9:=Tryz.sizeOf9
 v9:=Tryz.zeroValue9
 t20:=Tryz.underlying20
 a20:=Tryz.isAgg20
 z20:=Tryz.sizeOf20
 v20:=Tryz.zeroValue20
 t21:=Tryz.underlying21
 a21:=Tryz.isAgg21
 z21:=Tryz.sizeOf21
 v21:=Tryz.zeroValue21
 t37:=Tryz.underlying49
 a37:=Tryz.isAgg49
 z37:=Tryz.sizeOf49
 v37:=Tryz.zeroValue49
 t46:=Tryz.underlying33
 a46:=Tryz.isAgg33
 z46:=Tryz.sizeOf33
 v46:=Tryz.zeroValue33
 t51:=Tryz.underlying35
 a51:=Tryz.isAgg35
 z51:=Tryz.sizeOf35
 v51:=Tryz.zeroValue35
 t53:=Tryz.underlying52
 a53:=Tryz.isAgg52
 z53:=Tryz.sizeOf52
 v53:=Tryz.zeroValue52
 t75:=Tryz.underlying253
 a75:=Tryz.isAgg253
 z75:=Tryz.sizeOf253
 v75:=Tryz.zeroValue253
 t76:=Tryz.underlying277
 a76:=Tryz.isAgg277
 z76:=Tryz.sizeOf277
 v76:=Tryz.zeroValue277
 t85:=Tryz.underlying417
 a85:=Tryz.isAgg417
 z85:=Tryz.sizeOf417
 v85:=Tryz.zeroValue417
 t127:=Tryz.underlying371
 a127:=Tryz.isAgg371
 z127:=Tryz.sizeOf371
 v127:=Tryz.zeroValue371
 t143:=Tryz.underlying483
 a143:=Tryz.isAgg483
 z143:=Tryz.sizeOf483
 v143:=Tryz.zeroValue483
 t145:=Tryz.underlying485
 a145:=Tryz.isAgg485
 z145:=Tryz.sizeOf485
 v145:=Tryz.zeroValue485
 t167:=Tryz.underlying416
 a167:=Tryz.isAgg416
 z167:=Tryz.sizeOf416
 v167:=Tryz.zeroValue416
 t168:=Tryz.underlying419
 a168:=Tryz.isAgg419
 z168:=Tryz.sizeOf419
 v168:=Tryz.zeroValue419
 t171:=Tryz.underlying424
 a171:=Tryz.isAgg424
 z171:=Tryz.sizeOf424
 v171:=Tryz.zeroValue424
 t173:=Tryz.underlying427
 a173:=Tryz.isAgg427
 z173:=Tryz.sizeOf427
 v173:=Tryz.zeroValue427
 t175:=Tryz.underlying461
 a175:=Tryz.isAgg461
 z175:=Tryz.sizeOf461
 v175:=Tryz.zeroValue461
 t210:=Tryz.underlying464
 a210:=Tryz.isAgg464
 z210:=Tryz.sizeOf464
 v210:=Tryz.zeroValue464
 t212:=Tryz.underlying468
 a212:=Tryz.isAgg468
 z212:=Tryz.sizeOf468
 v212:=Tryz.zeroValue468
 t213:=Tryz.underlying469
 a213:=Tryz.isAgg469
 z213:=Tryz.sizeOf469
 t232:=Tryz.underlying497
 a232:=Tryz.isAgg497
 z232:=Tryz.sizeOf497
 v232:=Tryz.zeroValue497
 t233:=Tryz.underlying498
 a233:=Tryz.isAgg498
 z233:=Tryz.sizeOf498
 v233:=Tryz.zeroValue498
 g15:=by kernel_rfl
 g16:=by kernel_rfl
 g17:=by kernel_rfl
 g18:=by kernel_rfl
 g19:=by kernel_rfl
 t80:=Tryz.underlying268
 a80:=Tryz.isAgg268
 z80:=Tryz.sizeOf268
 v80:=Tryz.zeroValue268
 i0:=by kernel_rfl
 i2:=by kernel_rfl
 i3:=by kernel_rfl
 i4:=by kernel_rfl
 i5:=by kernel_rfl
 i9:=by kernel_rfl
 i20:=by kernel_rfl
 i21:=by kernel_rfl
 i37:=by kernel_rfl
 i46:=by kernel_rfl
 i51:=by kernel_rfl
 i53:=by kernel_rfl
 i75:=by kernel_rfl
 i76:=by kernel_rfl
 i80:=by kernel_rfl
 i85:=by kernel_rfl
 i127:=by kernel_rfl
 i143:=by kernel_rfl
 i145:=by kernel_rfl
 i167:=by kernel_rfl
 i168:=by kernel_rfl
 i171:=by kernel_rfl
 i173:=by kernel_rfl
 i175:=by kernel_rfl
 i210:=by kernel_rfl
 i212:=by kernel_rfl
 i232:=by kernel_rfl
 i233:=by kernel_rfl
 m15:=by kernel_rfl
 m16:=by kernel_rfl
 m17:=by kernel_rfl
 m18:=by kernel_rfl
 m19:=by kernel_rfl
 c0:=by kernel_rfl
 c2:=by kernel_rfl
 c3:=by kernel_rfl
 c4:=by kernel_rfl
 c5:=by kernel_rfl
 c9:=by kernel_rfl
 c20:=by kernel_rfl
 c21:=by kernel_rfl
 c37:=by kernel_rfl
 c46:=by kernel_rfl
 c51:=by kernel_rfl
 c53:=by kernel_rfl
 c75:=by kernel_rfl
 c76:=by kernel_rfl
 c80:=by kernel_rfl
 c85:=by kernel_rfl
 c127:=by kernel_rfl
 c143:=by kernel_rfl
 c145:=by kernel_rfl
 c167:=by kernel_rfl
 c168:=by kernel_rfl
 c171:=by kernel_rfl
 c173:=by kernel_rfl
 c175:=by kernel_rfl
 c210:=by kernel_rfl
 c212:=by kernel_rfl
 c213:=by kernel_rfl
 c232:=by kernel_rfl
 c233:=by kernel_rfl}
open Go.RowKit in
theorem Tryz.strconv_Atoi_ok(s:ByteArray)(hmax:s.size<=9223372036854775806)(v:Int)(h:Lib.atoiAll s.data.toList=.ok v)(w:World):
 Calls Tryz.prog 169 #[.string s] w λe w'=>e=.returned (.tuple #[.int .i64 v,.nilIface])/\(w'=w∨∃t,w'=Lib.bytesWorld w 5 t):=Any.strconv_Atoi_ok Tryz.laysC172 s hmax v h w
def Tryz.lays99_ren:Go.Shelf.Ren:=⟨λ|99=>120|206=>168|n=>n,λ|9=>9|4=>4|3=>3|n=>n,λ|n=>n⟩
theorem Tryz.lays99:Go.Proofs.Lays.n99 Tryz.prog Tryz.lays99_ren:={
 mixed:=by kernel_rfl
 f99:=Tryz.func120.trans (congrArg some (by kernel_rfl))
 f206:=Tryz.func168.trans (congrArg some (by kernel_rfl))
 t3:=Tryz.underlying3
 a3:=Tryz.isAgg3
 z3:=Tryz.sizeOf3
 v3:=Tryz.zeroValue3
 t4:=Tryz.underlying4
 a4:=Tryz.isAgg4
 z4:=Tryz.sizeOf4
 v4:=Tryz.zeroValue4
 t9:=Tryz.underlying9
 a9:=Tryz.isAgg9
 z9:=Tryz.sizeOf9
 v9:=Tryz.zeroValue9}
open Go.RowKit Go.Lib in
theorem Tryz.strings_HasPrefix(s p:ByteArray)(w:World):
 Calls Tryz.prog 120 #[.string s,.string p] w λe w'=>e=.returned (.bool (Lib.hasPrefix s.data.toList p.data.toList))/\w'=w:=Any.strings_HasPrefix Tryz.lays99 s p w
def Tryz.lays146_ren:Go.Shelf.Ren:=⟨λ|146=>117|221=>166|268=>220|138=>221|143=>222|195=>268|197=>269|218=>270|219=>271|260=>314|217=>315|225=>316|224=>317|267=>318|266=>337|314=>338|n=>n,λ|9=>9|31=>107|3=>3|4=>4|0=>0|105=>413|21=>21|5=>5|46=>33|119=>476|139=>479|138=>478|146=>480|51=>35|n=>n,λ|1=>3|3=>7|4=>8|n=>n⟩
theorem Tryz.lays146:Go.Proofs.Lays.n146 Tryz.prog Tryz.lays146_ren:={
 mixed:=by kernel_rfl
 f138:=Tryz.func221.trans (congrArg some (by kernel_rfl))
 f143:=Tryz.func222.trans (congrArg some (by kernel_rfl))
 f146:=Tryz.func117.trans (congrArg some (by kernel_rfl))
 f195:=Tryz.func268.trans (congrArg some (by kernel_rfl))
 f197:=Tryz.func269.trans (congrArg some (by kernel_rfl))
 f217:=Tryz.func315.trans (congrArg some (by kernel_rfl))
 f218:=Tryz.func270.trans (congrArg some (by kernel_rfl))
 f219:=Tryz.func271.trans (congrArg some (by kernel_rfl))
 f221:=Tryz.func166.trans (congrArg some (by kernel_rfl))
 f224:=Tryz.func317.trans (congrArg some (by kernel_rfl))
 f225:=Tryz.func316.trans (congrArg some (by kernel_rfl))
 f260:=Tryz.func314.trans (congrArg some (by kernel_rfl))
 f266:=Tryz.func337.trans (congrArg some (by kernel_rfl))
 f267:=Tryz.func318.trans (congrArg some (by kernel_rfl))
 f268:=Tryz.func220.trans (congrArg some (by kernel_rfl))
 f314:=Tryz.func338.trans (congrArg some (by kernel_rfl))
 t0:=Tryz.underlying0
 a0:=Tryz.isAgg0
 z0:=Tryz.sizeOf0
 v0:=Tryz.zeroValue0
 t3:=Tryz.underlying3
 a3:=Tryz.isAgg3
 z3:=Tryz.sizeOf3
 v3:=Tryz.zeroValue3
 t4:=Tryz.underlying4
 a4:=Tryz.isAgg4
 z4:=Tryz.sizeOf4
 v4:=Tryz.zeroValue4
 t5:=Tryz.underlying5
 a5:=Tryz.isAgg5
 z5:=Tryz.sizeOf5
 v5:=Tryz.zeroValue5
 t9:=Tryz.underlying9
 a9:=Tryz.isAgg9
 z9:=Tryz.sizeOf9
 v9:=Tryz.zeroValue9
 t21:=Tryz.underlying21
 a21:=Tryz.isAgg21
 z21:=Tryz.sizeOf21
 v21:=Tryz.zeroValue21
 t31:=Tryz.underlying107
 a31:=Tryz.isAgg107
 z31:=Tryz.sizeOf107
 v31:=Tryz.zeroValue107
 t46:=Tryz.underlying33
 a46:=Tryz.isAgg33
 z46:=Tryz.sizeOf33
 v46:=Tryz.zeroValue33
 t51:=Tryz.underlying35
 a51:=Tryz.isAgg35
 z51:=Tryz.sizeOf35
 v51:=Tryz.zeroValue35
 t105:=Tryz.underlying413
 a105:=Tryz.isAgg413
 z105:=Tryz.sizeOf413
 v105:=Tryz.zeroValue413
 t119:=Tryz.underlying476
 a119:=Tryz.isAgg476
 z119:=Tryz.sizeOf476
 t138:=Tryz.underlying478
 a138:=Tryz.isAgg478
 z138:=Tryz.sizeOf478
 v138:=Tryz.zeroValue478
 t139:=Tryz.underlying479
 a139:=Tryz.isAgg479
 z139:=Tryz.sizeOf479
 v139:=Tryz.zeroValue479
 t146:=Tryz.underlying480
 a146:=Tryz.isAgg480
 z146:=Tryz.sizeOf480
 v146:=Tryz.zeroValue480
 g1:=by kernel_rfl
 g3:=by kernel_rfl
 g4:=by kernel_rfl}
open Go.RowKit Go.Lib in
theorem Tryz.strings_Split(s sep:ByteArray)(m:Int)(w:World)(hs:s.size<4294967281)(hm:w.cell? ⟨3,0,none⟩=some (.int .i64 m))(h1:1<=sep.size):
 Calls Tryz.prog 117 #[.string s,.string sep] w λe w'=>
  e=.returned (.slice (some ⟨w.heap.size,0,none⟩) (Lib.countB s sep+1) (Lib.countB s sep+1))/\w'=w.alloc (.cells ((Lib.splitB sep 0 (Lib.countB s sep) s).map Value.string).toArray 9):=Any.strings_Split Tryz.lays146 (by kernel_rfl) s sep m w hs hm h1
def Tryz.lays107_ren:Go.Shelf.Ren:=⟨λ|107=>215|108=>265|n=>n,λ|28=>22|3=>3|4=>4|0=>0|n=>n,λ|n=>n⟩
theorem Tryz.lays107:Go.Proofs.Lays.n107 Tryz.prog Tryz.lays107_ren:={
 mixed:=by kernel_rfl
 f107:=Tryz.func215.trans (congrArg some (by kernel_rfl))
 f108:=Tryz.func265.trans (congrArg some (by kernel_rfl))
 t0:=Tryz.underlying0
 a0:=Tryz.isAgg0
 z0:=Tryz.sizeOf0
 v0:=Tryz.zeroValue0
 t3:=Tryz.underlying3
 a3:=Tryz.isAgg3
 z3:=Tryz.sizeOf3
 v3:=Tryz.zeroValue3
 t4:=Tryz.underlying4
 a4:=Tryz.isAgg4
 z4:=Tryz.sizeOf4
 v4:=Tryz.zeroValue4
 t28:=Tryz.underlying22
 a28:=Tryz.isAgg22
 z28:=Tryz.sizeOf22
 v28:=Tryz.zeroValue22}
open Go.Lib in
theorem Tryz.slices_Contains_int_empty(a:Option Addr)(c:Nat)(x:Int)(w:World):
 Calls Tryz.prog 215 #[.slice a 0 c,.int .i64 x] w λe w'=>e=.returned (.bool false)/\w'=w:=Any.slices_Contains_int_empty Tryz.lays107 a c x w
def Tryz.laysNm215_ren:Go.Shelf.Ren:=⟨λ|15=>43|n=>n,λ|22=>22|3=>3|4=>4|n=>n,λ|n=>n⟩
theorem Tryz.laysNm215:Go.Proofs.Lays2.n15 Tryz.prog Tryz.laysNm215_ren:={
 mixed:=by kernel_rfl
 f15:=Tryz.func43.trans (congrArg some (by kernel_rfl))
 t3:=Tryz.underlying3
 a3:=Tryz.isAgg3
 z3:=Tryz.sizeOf3
 v3:=Tryz.zeroValue3
 t4:=Tryz.underlying4
 a4:=Tryz.isAgg4
 z4:=Tryz.sizeOf4
 v4:=Tryz.zeroValue4
 t22:=Tryz.underlying22
 a22:=Tryz.isAgg22
 z22:=Tryz.sizeOf22
 v22:=Tryz.zeroValue22
 i3:=by kernel_rfl}
open Go.RowKit Go.Lib in
theorem Tryz.slices_Clone_int_nil(n c:Nat)(w:World):
 Calls Tryz.prog 43 #[.slice none n c] w λe w'=>e=.returned (.slice none 0 0)/\w'=w:=Any.slices_Clone_int_nil Tryz.laysNm215 n c w
end Go.Proofs
open Go.Proofs.Tryz
namespace Go.Proofs.YtofppfoioodblaaGreatDoor
section
open Go Go.RowKit Go.Shelf
attribute [local go_sem] Oper.semAt_some
def Xe(v:Int)(n:Nat):Bool:=known v && decide (n<=1000)
theorem Xf(v:Int)(c:Int)(d:ByteArray)(w:World):Calls prog 229 #[.agg #[.int .i64 v,.int .u32 c,.string d]] w λe w'=>e=.returned (.bool (Xe v d.size))/\Below w.heap.size w w':=by
 cases hv:known v
 ·go_enter func229,ntmps229
  go_wp2_with (go_at_call 163;refine(vp _ _).mono ?_;rintro e w' ⟨rfl,hb⟩;obtain⟨aa,ab⟩:=zbL hb;have hz:=hb.size)
  go_ret
  exact⟨by simp [Xe,hv],((N2 _ _).alloc (N0 _) _).trans (Below.mono (by assumption) (by simp))⟩
 go_enter func229,ntmps229
 go_wp2_with (go_at_call 163;refine(vp _ _).mono ?_;rintro e w' ⟨rfl,hb⟩;obtain⟨aa,ab⟩:=zbL hb;have hz:=hb.size)
 go_ret
 refine⟨?_,((N2 _ _).alloc (N0 _) _).trans (Below.mono (by assumption) (by simp))⟩;simp [Xe,hv]
 try omega
def ZL(v:Int):Int×Int:=if known v then(if v=1 then(1,0)else(2,0))else(0,130)
theorem zbP(v:Int)(w:World):Calls prog 186 #[.int .i64 v] w λe w'=>e=.returned (.tuple #[.int .i64 (ZL v).1,.int .i64 (ZL v).2])/\Below w.heap.size w w':=by
 cases hv:known v
 ·go_enter func186,ntmps186
  go_wp2_with (go_at_call 163;refine(vp _ _).mono ?_;rintro e w' ⟨rfl,hb⟩)
  go_ret2
  exact⟨by simp [ZL,hv],by assumption⟩
 by_cases h1:v=1
 ·have aa:(v==1)=true:=by simp [h1]
  go_enter func186,ntmps186
  go_wp2_with (go_at_call 163;refine(vp _ _).mono ?_;rintro e w' ⟨rfl,hb⟩)
  go_ret2
  exact⟨by subst h1;simp [ZL,hv],by assumption⟩
 have aa:(v==1)=false:=by simp [h1]
 go_enter func186,ntmps186
 go_wp2_with (go_at_call 163;refine(vp _ _).mono ?_;rintro e w' ⟨rfl,hb⟩)
 go_ret2
 exact⟨by simp [ZL,hv,h1],by assumption⟩
end
section
open Go Go.RowKit Go.Shelf Go.Extern.Stop Go.Stop Go.Extern
attribute [local go_sem] Oper.semAt_some
def jv(w:World)(a:Addr):Prop:=w.cell? ⟨2,0,none⟩=some (.iface 483 (.pointer (some a)))
theorem jv.below {B:Nat}{w w':World}{a:Addr}(h:jv w a)(hb:Below B w w')(hB:2<B):jv w' a:=(hb.cell hB).trans h
theorem jv.lt {w:World}{a:Addr}(h:jv w a):2<w.heap.size:=by
 unfold jv World.cell? at h
 rcases Nat.lt_or_ge 2 w.heap.size with h'|h'
 ·exact h'
 simp [Array.getElem?_eq_none h'] at h
theorem zdz(s:ByteArray)(w:World):Calls prog 288 #[.string s,.bool true] w λe w'=>e=.returned (.tuple #[.string s,.nilIface])/\w'=w:=by
 go_enter func288,ntmps288
 go_wp2;go_ret2
 exact⟨rfl,rfl⟩
theorem zhs(s:ByteArray)(a:Addr)(w:World)(he:jv w a):Calls prog 288 #[.string s,.bool false] w λe w'=>e=.returned (.tuple #[.string ByteArray.empty,.iface 483 (.pointer (some a))])/\Below w.heap.size w w':=by
 unfold jv at he
 go_enter func288,ntmps288
 go_wp2
 go_quiet (fail)
 go_wp2;go_ret2
 exact⟨rfl,below_drewN (N2 _ _) _⟩
theorem zjC(v:Value)(w:World):(Extern.ReflectliteType.typeOf #[.iface 483 v]).run prog w=.ok (.iface 443 (.agg #[.pointer (some ⟨11,483,none⟩)])) w:=by kernel_rfl
theorem zbQ(w:World):((Extern.ReflectliteType.method λt=>do Rtype.noPackHeld "Comparable" t;(λa=>Value.bool a.comparable)<$>typeInfo t) #[.agg #[.pointer (some ⟨11,483,none⟩)]]).run prog w=.ok (.bool true) w:=by kernel_rfl
theorem Yb(v:Value)(w:World):(Go.method 640 443 v "Comparable").run prog w=.ok (391,v) w:=by kernel_rfl
theorem zl6:(prog.info? 483).map (·.comparable)=some true:=by kernel_rfl
theorem zl7:(prog.info? 485).map (·.size)=some 1:=by kernel_rfl
theorem zlc(a:Addr)(w:World):
 Calls prog 197 #[.iface 483 (.pointer (some a)),.iface 483 (.pointer (some a))] w λe w'=>e=.returned (.bool true)/\w'=w:=by
 obtain⟨i,hi,aa⟩:=Option.map_eq_some_iff.1 zl6;obtain⟨j,hj,ad⟩:=Option.map_eq_some_iff.1 zl7;have h8:= @run_callFunc_extern prog 246 _ Extern.ReflectliteType.typeOf func246 (by kernel_rfl) (by kernel_rfl) (by kernel_rfl) (by kernel_rfl);have ab:= @run_callFunc_extern prog 391 _ (Extern.ReflectliteType.method λt=>do Rtype.noPackHeld "Comparable" t;pure (.bool (← typeInfo t).comparable)) func391 (by kernel_rfl) (by kernel_rfl) (by kernel_rfl) (by kernel_rfl);have tT:=zjC;have cT:=zbQ;have mR:=Yb;have ac:=run_eql_iface_ptr_same (P:=prog) w a Tryz.underlying253 Tryz.underlying483 hi aa hj
 go_enter func197,ntmps197
 go_wp2;refine wp_loop_rounds 1 ?_;rw [rounds_succ];go_wp2;go_ret
 exact⟨rfl,rfl⟩
theorem zl8(b:Addr)(w:World):
 Calls prog 197 #[.nilIface,.iface 483 (.pointer (some b))] w λe w'=>e=.returned (.bool false)/\w'=w:=by
 have hn:=run_eql_iface_nil_left (P:=prog) w 483 (.pointer (some b)) Tryz.underlying253
 go_enter func197,ntmps197
 go_wp2;go_ret
 exact⟨rfl,rfl⟩
end
section
open Go Go.RowKit Go.Shelf Go.Extern.Stop Go.Stop Go.Extern
attribute [local go_sem] Oper.semAt_some
theorem Yc(l p:List UInt8)(w:World):Calls prog 290 #[.string (bs l),.string (bs p)] w λe w'=>
 e=.returned (.tuple #[.string (bs (Lib.trimPrefix l p)),.bool (Lib.hasPrefix l p)])/\w'=w:=by
 have h:=Tryz.strings_CutPrefix (bs l) (bs p) w;rw [xE,xE] at h;exact h
theorem Yd(l p:List UInt8)(w:World)(hl:l.length<=9223372036854775807):Calls prog 287 #[.string (bs l),.string (bs p)] w λe w'=>
 e=.returned (.tuple #[.string (bs (Lib.trimSuffix l p)),.bool (Lib.hasSuffix l p)])/\w'=w:=by
 have h:=Tryz.strings_CutSuffix (bs l) (bs p) w (by rw [zI];exact hl);rw [xE,xE] at h;exact h
theorem zl9(a b:List UInt8):Lib.join [a,b] []=a++b:=by simp [Lib.join,List.intercalate]
theorem zeS(bk c:Nat)(x y:List UInt8)(w:World)(hx:w.cell? ⟨bk,0,none⟩=some (.string (bs x)))(hy:w.cell? ⟨bk,1,none⟩=some (.string (bs y)))(hbk:bk<w.heap.size)(hc:2<=c)
 (hl:(x++y).length<=140737488355328):Calls prog 138 #[.slice (some ⟨bk,0,none⟩) 2 c,.string ⟨#[]⟩] w λe w'=>e=.returned (.string (bs (x++y)))/\Below w.heap.size w w':=by
 have hj:=Tryz.strings_Join bk 0 c [bs x,bs y] ⟨#[]⟩ w (λj z hz=>by
  obtain rfl|rfl|h:j=0∨j=1∨2<=j:=by omega
  ·simp at hz;subst hz;exact hx
  ·simp at hz;subst hz;exact hy
  rw [List.getElem?_eq_none (by simpa using h)] at hz;cases hz) hbk (by simp) (by simpa using hc) (by
  simp only [List.map_cons,List.map_nil,xE]
  rw [zl9];omega)
 simp only [List.map_cons,List.map_nil,xE] at hj;rw [zl9] at hj;exact hj
theorem zbR(bk c:Nat)(x y:List UInt8)(w:World)(hx:w.cell? ⟨bk,0,none⟩=some (.string (bs x)))(hy:w.cell? ⟨bk,1,none⟩=some (.string (bs y)))(hbk:bk<w.heap.size)(hc:2<=c)
 (hl:(x++y).length<=1000):Calls prog 284 #[.slice (some ⟨bk,0,none⟩) 2 c] w λe w'=>e=.returned (.tuple #[.string (bs (x++y)),.nilIface])/\Below w.heap.size w w':=by
 have hj:=zeS bk c x y w hx hy hbk hc (by omega);have aa:decide (((bs (x++y)).size:Int)<=1000)=true:=by rw [zI];simp only [decide_eq_true_eq];omega
 clear hx hy hl
 go_enter func284,ntmps284
 go_wp2_with (first|(go_at_call 138;refine hj.mono ?_;rintro e w' ⟨rfl,hb⟩)|(go_at_call 288;refine(zdz _ _).mono ?_;rintro e w' ⟨rfl,rfl⟩))
 go_ret2
 exact⟨rfl,by assumption⟩
theorem zbS(a:Addr)(bk c:Nat)(x y:List UInt8)(w:World)(he:jv w a)(hx:w.cell? ⟨bk,0,none⟩=some (.string (bs x)))(hy:w.cell? ⟨bk,1,none⟩=some (.string (bs y)))(hbk:bk<w.heap.size)(hc:2<=c)
 (hl:1000<(x++y).length) (hl2:(x++y).length<=140737488355328):Calls prog 284 #[.slice (some ⟨bk,0,none⟩) 2 c] w λe w'=>e=.returned (.tuple #[.string ByteArray.empty,.iface 483 (.pointer (some a))])/\Below w.heap.size w w':=by
 have hj:=zeS bk c x y w hx hy hbk hc hl2;have ab:decide (((bs (x++y)).size:Int)<=1000)=false:=by rw [zI];simp only [decide_eq_false_iff_not];omega
 have aa:=he.lt;clear hx hy hl hl2
 go_enter func284,ntmps284
 go_wp2_with (first|(go_at_call 138;refine hj.mono ?_;rintro e w' ⟨rfl,hb⟩;have hE:=he.below hb aa;have hs:=hb.size)|(go_at_call 288;refine(zhs _ a _ hE).mono ?_;rintro e w' ⟨rfl,ac⟩))
 go_ret2
 exact⟨rfl,Below.trans (by assumption) (Below.mono (by assumption) (by assumption))⟩
theorem zdA(v:Int)(c:Nat)(d:List UInt8)(w:World)(hl:([98] ++d).length<=1000):
 Calls prog 283 #[.agg #[.int .i64 v,.int .u32 c,.string (bs d)]] w λe w'=>e=.returned (.tuple #[.string (bs ([98] ++d)),.nilIface])/\Below w.heap.size w w':=by
 have ab:((w.alloc (.cells #[.int .i64 v,.int .u32 ↑c,.string (bs d)] 115)).alloc (.cells #[.string ⟨#[98]⟩,.string (bs d)] 9)).cell? ⟨w.heap.size+1,0,none⟩=some (.string (bs [98])):=by simp;rfl
 have aa:((w.alloc (.cells #[.int .i64 v,.int .u32 ↑c,.string (bs d)] 115)).alloc (.cells #[.string ⟨#[98]⟩,.string (bs d)] 9)).cell? ⟨w.heap.size+1,1,none⟩=some (.string (bs d)):=by simp
 go_enter func283,ntmps283
 go_wp2_with (go_at_call 284;(with_reducible refine(zbR (w.heap.size+1) _ [98] d _ ab aa (by simp) (by omega) hl).mono ?_);rintro e w' ⟨rfl,hb⟩)
 go_ret2
 exact⟨rfl,(((N2 _ _).alloc (N0 _) _).alloc (by simp) _).trans (Below.mono (by assumption) (by simp;omega))⟩
theorem zdB(a:Addr)(v:Int)(c:Nat)(d:List UInt8)(w:World)(he:jv w a)(hl:1000<([98] ++d).length)(hl2:d.length<=1000):
 Calls prog 283 #[.agg #[.int .i64 v,.int .u32 c,.string (bs d)]] w λe w'=>e=.returned (.tuple #[.string ByteArray.empty,.iface 483 (.pointer (some a))])/\Below w.heap.size w w':=by
 have ac:((w.alloc (.cells #[.int .i64 v,.int .u32 ↑c,.string (bs d)] 115)).alloc (.cells #[.string ⟨#[98]⟩,.string (bs d)] 9)).cell? ⟨w.heap.size+1,0,none⟩=some (.string (bs [98])):=by simp;rfl
 have ab:((w.alloc (.cells #[.int .i64 v,.int .u32 ↑c,.string (bs d)] 115)).alloc (.cells #[.string ⟨#[98]⟩,.string (bs d)] 9)).cell? ⟨w.heap.size+1,1,none⟩=some (.string (bs d)):=by simp
 have aa:Below w.heap.size w ((w.alloc (.cells #[.int .i64 v,.int .u32 ↑c,.string (bs d)] 115)).alloc (.cells #[.string ⟨#[98]⟩,.string (bs d)] 9)):=((N2 _ _).alloc (N0 _) _).alloc (by simp) _;have hE:=he.below aa he.lt;clear he
 go_enter func283,ntmps283
 go_wp2_with (go_at_call 284;(with_reducible refine(zbS a (w.heap.size+1) _ [98] d _ hE ac ab (by simp) (by omega) hl (by simp;omega)).mono ?_);rintro e w' ⟨rfl,hb⟩)
 go_ret2
 exact⟨rfl,aa.trans (Below.mono (by assumption) (by simp;omega))⟩
theorem zdC(v:Int)(c:Nat)(d:List UInt8)(w:World)(hl:(d++le4 c).length<=1000):
 Calls prog 285 #[.agg #[.int .i64 v,.int .u32 c,.string (bs d)]] w λe w'=>e=.returned (.tuple #[.string (bs (d++le4 c)),.nilIface])/\Below w.heap.size w w':=by
 go_enter func285,ntmps285
 go_wp2
 go_region_with (first
  |(go_at_call 134;(with_reducible refine(yT _ _).mono ?_);rintro e w1 ⟨rfl,hb⟩;have hz:=hb.size;obtain⟨aa,ab⟩:=zbL hb)
  |(go_at_call 284;(with_reducible refine(zbR _ _ d (le4 c) _ (by simp) (by simp) (by simp) (by omega) hl).mono ?_);rintro e w2 ⟨rfl,ac⟩))
 all_goals go_wp2
 all_goals go_ret2
 all_goals exact⟨rfl,pbx⟩
theorem zdD(a:Addr)(v:Int)(c:Nat)(d:List UInt8)(w:World)(he:jv w a)(hl:1000<(d++le4 c).length)(hl2:d.length<=1000):
 Calls prog 285 #[.agg #[.int .i64 v,.int .u32 c,.string (bs d)]] w λe w'=>e=.returned (.tuple #[.string ByteArray.empty,.iface 483 (.pointer (some a))])/\Below w.heap.size w w':=by
 have aa:(d++le4 c).length<=140737488355328:=by simp [zY];omega
 have hE:∀W,Below w.heap.size w W->jv W a:=λW hW=>he.below hW he.lt
 clear he
 go_enter func285,ntmps285
 go_wp2
 go_region_with (first
  |(go_at_call 134;(with_reducible refine(yT _ _).mono ?_);rintro e w1 ⟨rfl,hb⟩;have hz:=hb.size;obtain⟨ab,ac⟩:=zbL hb)
  |(go_at_call 284;(with_reducible refine(zbS a _ _ d (le4 c) _ (hE _ (pbx)) (by simp) (by simp) (by simp) (by omega) hl aa).mono ?_);rintro e w2 ⟨rfl,ad⟩))
 all_goals go_wp2
 all_goals go_ret2
 all_goals exact⟨rfl,pbx⟩
theorem zfF(v:Int)(c:Nat)(d:List UInt8)(w:World)(hd:d.length<=1000)(hs:Lib.hasSuffix d (le4 c)=true):
 Calls prog 286 #[.agg #[.int .i64 v,.int .u32 c,.string (bs d)]] w λe w'=>e=.returned (.tuple #[.string (bs (Lib.trimSuffix d (le4 c))),.nilIface])/\Below w.heap.size w w':=by
 go_enter func286,ntmps286
 go_wp2
 go_region_with (first
  |(go_at_call 134;(with_reducible refine(yT _ _).mono ?_);rintro e w1 ⟨rfl,hb⟩;have hz:=hb.size;obtain⟨aa,ab⟩:=zbL hb)
  |(go_at_call 287;(with_reducible refine(Yd _ _ _ (by omega)).mono ?_);rintro e w2 ⟨rfl,rfl⟩))
 all_goals go_wp2_with (go_at_call 288;(with_reducible refine(zdz _ _).mono ?_);rintro e w2 ⟨rfl,rfl⟩)
 all_goals go_ret2
 all_goals exact⟨rfl,pbx⟩
theorem zht(a:Addr)(v:Int)(c:Nat)(d:List UInt8)(w:World)(he:jv w a)(hd:d.length<=1000)(hs:Lib.hasSuffix d (le4 c)=false):
 Calls prog 286 #[.agg #[.int .i64 v,.int .u32 c,.string (bs d)]] w λe w'=>e=.returned (.tuple #[.string ByteArray.empty,.iface 483 (.pointer (some a))])/\Below w.heap.size w w':=by
 have hE:∀W,Below w.heap.size w W->jv W a:=λW hW=>he.below hW he.lt
 clear he
 go_enter func286,ntmps286
 go_wp2
 go_region_with (first
  |(go_at_call 134;(with_reducible refine(yT _ _).mono ?_);rintro e w1 ⟨rfl,hb⟩;have hz:=hb.size;obtain⟨aa,ab⟩:=zbL hb)
  |(go_at_call 287;(with_reducible refine(Yd _ _ _ (by omega)).mono ?_);rintro e w2 ⟨rfl,rfl⟩))
 all_goals go_wp2_with (go_at_call 288;(with_reducible refine(zhs _ a _ (hE _ (pbx))).mono ?_);rintro e w2 ⟨rfl,ac⟩)
 all_goals go_ret2
 all_goals exact⟨rfl,pbx⟩
theorem zfG(v:Int)(c:Nat)(d:List UInt8)(w:World)(hs:Lib.hasPrefix d [98]=true):
 Calls prog 289 #[.agg #[.int .i64 v,.int .u32 c,.string (bs d)]] w λe w'=>e=.returned (.tuple #[.string (bs (Lib.trimPrefix d [98])),.nilIface])/\Below w.heap.size w w':=by
 have hp:=λW=>Yc d [98] W
 rw [hs] at hp;clear hs
 go_enter func289,ntmps289
 go_wp2_with (first
  |(go_at_call 290;refine(hp _).mono ?_;rintro e w2 ⟨rfl,rfl⟩)
  |(go_at_call 288;(with_reducible refine(zdz _ _).mono ?_);rintro e w2 ⟨rfl,rfl⟩))
 go_ret2
 exact⟨rfl,pbx⟩
theorem zhu(a:Addr)(v:Int)(c:Nat)(d:List UInt8)(w:World)(he:jv w a)(hs:Lib.hasPrefix d [98]=false):
 Calls prog 289 #[.agg #[.int .i64 v,.int .u32 c,.string (bs d)]] w λe w'=>e=.returned (.tuple #[.string ByteArray.empty,.iface 483 (.pointer (some a))])/\Below w.heap.size w w':=by
 have hp:=λW=>Yc d [98] W
 rw [hs] at hp;have hE:∀W,Below w.heap.size w W->jv W a:=λW hW=>he.below hW he.lt
 clear hs he
 go_enter func289,ntmps289
 go_wp2_with (first
  |(go_at_call 290;refine(hp _).mono ?_;rintro e w2 ⟨rfl,rfl⟩)
  |(go_at_call 288;(with_reducible refine(zhs _ a _ (hE _ (pbx))).mono ?_);rintro e w2 ⟨rfl,aa⟩))
 go_ret2
 exact⟨rfl,pbx⟩
end
open Go
def jG(c:UInt8):List UInt8->List (List UInt8)
 | []=>[[]]
 |x::s=>if x=c then []::jG c s else match jG c s with
  | []=>[[x]]
  |h::t=>(x::h)::t
theorem qd {c:UInt8} :∀(l:List UInt8),c∉l->jG c l=[l]
 | [],_=>rfl
 |x::l,h=>by
  unfold jG;rw [if_neg (λe=>h (by rw [e];exact List.mem_cons_self ..)),qd l (λe=>h (U7 _ e))]
theorem Y4 {c:UInt8}(b:List UInt8):∀(a:List UInt8),c∉a->jG c (a++c::b)=a::jG c b
 | [],_=>by rw [List.nil_append,jG,if_pos rfl]
 |x::a,h=>by
  rw [List.cons_append,jG,if_neg (λe=>h (by rw [e];exact List.mem_cons_self ..)),Y4 b a (λe=>h (U7 _ e))]
theorem zeT(c:UInt8):∀(n:Nat)(l:List UInt8),l.length<=n->Lib.split l [c]=jG c l
 |n,l,hn=>by
  by_cases h:c∈l
  ·have hi:Lib.index l [c] ≠ -1:=λe=>by
    rw [Lib.index_one] at e;obtain⟨k,hk⟩:=List.getElem?_of_mem h;exact Lib.indexByte_none e k hk
   have hg:=Lib.indexByte_ge l c;obtain⟨i,hi2⟩:∃i:Nat,Lib.index l [c]=i:=⟨(Lib.index l [c]).toNat,by have:=Lib.index_one l c;omega⟩;have hi3:=hi2;rw [Lib.index_one] at hi3;obtain⟨h1,h2⟩:=Lib.indexByte_some hi3;obtain⟨hl,hc⟩:=N6.1 h1
   match n,hn with
   |0,hn=>omega
   |n+1,hn=>
    have ih:=zeT c n (l.drop (i+1)) (by rw [U3];omega)
    have hcut:l=l.take i++c::l.drop (i+1):=by
     conv=>lhs;rw [← List.take_append_drop i l,List.drop_eq_getElem_cons hl,hc]
    have aa:c∉l.take i:=λhm=>by
     obtain⟨k,hk⟩:=List.getElem?_of_mem hm;have ab:=(N6.1 hk).1;rw [N7] at ab;rw [List.getElem?_take_of_lt (by omega)] at hk;exact h2 k (by omega) hk
    have e1:Lib.split l [c]=l.take i::Lib.split (l.drop (i+1)) [c]:=by
     unfold Lib.split;rw [Lib.count_hit (by simp) hi2,Nat.add_comm 1]
     conv=>lhs;unfold Lib.splitK
     rw [if_neg (by simpa using hi),hi2];rfl
    rw [e1,ih]
    conv=>rhs;rw [hcut]
    rw [Y4 _ _ aa]
  have hi:Lib.index l [c]= -1:=by
   rw [Lib.index_one]
   by_cases e:Lib.indexByte l c= -1
   ·exact e
   have hg:=Lib.indexByte_ge l c
   obtain⟨i,hi⟩:∃i:Nat,Lib.indexByte l c=i:=⟨(Lib.indexByte l c).toNat,by omega⟩;exact absurd (List.mem_of_getElem? (Lib.indexByte_some hi).1) h
  unfold Lib.split;rw [Lib.count_miss hi,qd l h];rfl
theorem zhv(s:ByteArray)(c:UInt8):(Lib.splitB ⟨#[c]⟩ 0 (Lib.countB s ⟨#[c]⟩) s).map (·.data.toList)=jG c s.data.toList:=by
 rw [Lib.splitB_data];exact zeT c _ _ (N0 _)
abbrev JK:=Nat×List (List UInt8)
def vP(s:List UInt8):List (List UInt8):=(jG 32 s).filter λw=> !w.isEmpty
def zaJ(ws:List (List UInt8)):Bool:=match ws with
 | []=>false
 |w::_=> !Lib.hasPrefix w [59]
def jW:Nat->List (List UInt8)->List JK
 |_,[]=>[]
 |i,s::r=>if zaJ (vP s)then(i+1,vP s)::jW (i+1) r else jW (i+1) r
def j5(t:List UInt8):List JK:=jW 0 (jG 10 t)
def zaK(w:List UInt8):Option (Nat×Nat×Nat):=
 if w=[115,101,110,100] then some (1,1,1)
 else if w=[112,114,111,112,111,115,101] then some (1,0,2)
 else if w=[99,114,97,115,104] then some (1,0,7)
 else if w=[114,101,115,116,97,114,116] then some (1,0,9)
 else if w=[116,97,107,101] then some (1,0,3)
 else if w=[100,114,111,112] then some (1,0,4)
 else if w=[99,111,112,121] then some (1,0,5)
 else if w=[99,117,116] then some (2,0,8)
 else if w=[119,97,110,116] then some (2,0,10)
 else if w=[102,97,105,114] ∨w=[108,111,103] ∨w=[101,114,97,115] then some (1,0,0)
 else if w=[102,108,121,105,110,103] then some (0,0,0)
 else none
def qt(b:UInt8):Bool:=decide (48<=b.toNat/\b.toNat<=57)
def vQ(w:List UInt8):Bool:=decide (1<=w.length/\w.length<=9)&& w.all qt
def yO(ws:List (List UInt8)):Bool:=match zaK (ws.headD [])with
 |none=>true
 |some (n,k,_)=>if ws.length=1+n+k then !((ws.drop 1).take n).all vQ else true
def zm6(w:List UInt8):Nat:=w.foldl (λa b=>10*a+(b.toNat - 48)) 0
def atP(ws:List (List UInt8))(i:Nat):Nat:=zm6 (ws[i]?.getD [])
def qq(t:List UInt8):List JK×Nat×Int:=
 if 65536<t.length then([],0,200)
 else if 300<(j5 t).length then([],0,200)
 else match(j5 t).find? (λl=>yO l.2)with
  |some l=>([],l.1,201)
  |none=>(j5 t,0,0)
def vr(n:Nat):List UInt8:=Lib.itoa (n:Int)
def xN(ws:List (List UInt8)):List UInt8:=Lib.join ws [32] ++ [10]
def j0(a b:Nat):List UInt8:=vr a++ [46] ++vr b
