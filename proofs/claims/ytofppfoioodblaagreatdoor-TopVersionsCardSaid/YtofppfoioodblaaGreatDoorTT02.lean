/- PARTS OF THE PROOF. -/
import Derived.Outline
import Derived.LaidEql
import Derived.RowKitTokens
import Derived.BigQuiet
import Derived.Deep.QuietTactic
import Derived.Laws.BytesArg
import Derived.WalkSmall
import Derived.Shelf.Strings.Builder1
import Derived.Shelf.Strings.Builder2
import Derived.Shelf.Strings.OnBuilder
import Derived.Shelf.Small.Bits
import Derived.Shelf.Small.Wraps
import Derived.Shelf.Utf8.RuneCount
import Derived.Shelf.Strconv.Atoi
import Derived.Shelf.Strconv.Itoa0
import Derived.Shelf.Strconv.Itoa1
import Derived.Shelf.LaysM
import Derived.Shelf.Strconv.Itoa2
import Derived.Shelf.Strconv.Itoa3
import Derived.Shelf.Strconv.AtoiErrFast
import Derived.Shelf.Strconv.ParseIntEmpty
import Derived.Shelf.Strconv.AtoiFail
import Derived.Shelf.Strconv.Clone
import Derived.Shelf.Strconv.SyntaxError
import Derived.Shelf.LaysC
import Derived.Shelf.Strconv.ToError
import Derived.Shelf.Strconv.AtoiErr
import Derived.Shelf.Strconv.ErrVar
import Derived.Shelf.Strconv.Lower
import Derived.Shelf.Strconv.ParseUint10
import Derived.Shelf.Strconv.ParseUint10Empty
import Derived.Shelf.Strconv.ParseUint10Any
import Derived.Shelf.Strconv.ParseInt10
import Derived.Shelf.Strconv.AtoiLong
import Derived.Shelf.Strconv.AtoiInnerAll
import Derived.Shelf.Strconv.RangeError
import Derived.Shelf.Strconv.ToErrorRange
import Derived.Shelf.Strconv.AtoiAll
import Derived.Shelf.Strconv.ErrVarAll
import Derived.Shelf.Strconv.ParseUintEmpty
import Derived.Shelf.Strconv.ParseUint10b64
import Derived.Shelf.Strconv.ParseUint10b32
import Derived.Shelf.Strconv.ParseUint10b16
import Derived.Shelf.Strconv.ParseUint10b8
import Derived.Shelf.Strconv.ParseUint10At
import Derived.Shelf.Strconv.ParseInt10At64
import Derived.Shelf.Strconv.ParseInt10At32
import Derived.Shelf.Strconv.ParseInt10At16
import Derived.Shelf.Strconv.ParseInt10At8
import Derived.Shelf.Strconv.ParseInt10All
import Derived.Shelf.Strings.Search1
import Derived.Shelf.Strings.Search2
import Derived.Shelf.Strings.Search3
import Derived.Shelf.Strings.Count
import Derived.Shelf.Strings.Shaped
import Derived.Shelf.Strings.Prefix
import Derived.Shelf.Strings.Split
import Derived.Shelf.Strings.SplitShaped
import Derived.Shelf.Unicode.Decode
import Derived.Shelf.Strings.RuneCount
import Derived.Shelf.Strings.Explode
import Derived.Shelf.Unicode.DecodeSlow
import Derived.Shelf.Unicode.DecodeAny
import Derived.Shelf.Slices.Turned
import Derived.Ground.Names2Prog
import Derived.Shelf.Slices.Clone
import Derived.Shelf.Slices.SearchI
import Derived.Stop.Asserts
import Derived.Deep.RegionWith
import Derived.OpenShut
import Derived.Deep.DeepHandedRow
import Derived.Deep.DeepWitnessRowRef
import Derived.Stop.LaidErr
import Derived.Lib.SmallJoins
import Derived.Test.YtofppfoioodblaaGreatDoorProg
import Derived.Test.YtofppfoioodblaaGreatDoorCards
import Derived.Test.YtofppfoioodblaaGreatDoorTie
import Derived.Test.YtofppfoioodblaaGreatDoorTT01
set_option maxRecDepth 8000
set_option maxHeartbeats 4000000
namespace Go.Proofs.YtofppfoioodblaaGreatDoor
open Go Go.RowKit Go.Shelf Go.Extern.Stop Go.Stop Go.Extern
attribute [local go_sem] Oper.semAt_some
def le4(n:Nat):List UInt8:=[UInt8.ofNat n,UInt8.ofNat (n / 256),UInt8.ofNat (n / 65536),UInt8.ofNat (n / 16777216)]
theorem zY(n:Nat):(le4 n).length=4:=rfl
def bs(l:List UInt8):ByteArray:=⟨l.toArray⟩
theorem qw(l:List UInt8):(bs l).data.toList=l:=by simp [bs]
theorem zJ(l:List UInt8):(bs l).size=l.length:=by simp [bs,ByteArray.size]
theorem Vp(n:Nat):UInt8.ofNat (n % 256)=UInt8.ofNat n:=by
 apply UInt8.toNat_inj.1;simp
theorem zaF(n:Nat):((n:Int)% 256).toNat=n % 256:=by omega
theorem QK(n:Nat):strOfNums [(n:Int)% 256,(n:Int) / 256 % 256,(n:Int) / 65536 % 256,(n:Int) / 16777216 % 256]=bs (le4 n):=by
 have h1:((n:Int) / 256)=((n / 256:Nat):Int):=by omega
 have h2:((n:Int) / 65536)=((n / 65536:Nat):Int):=by omega
 have h3:((n:Int) / 16777216)=((n / 16777216:Nat):Int):=by omega
 unfold strOfNums bs le4;rw [h1,h2,h3];simp only [List.map_cons,List.map_nil,zaF,Vp]
theorem zid(b off cap:Nat)(xs:List Int)(w:World)(hc:∀i,i<xs.length->w.cell? ⟨b,off+i,none⟩=some (.int .u8 (xs.getD i 0))):
 Calls Tryz.prog 175 #[.slice (some ⟨b,off,none⟩) xs.length cap] w λe w'=>e=.returned (.string (strOfNums xs))/\w'=w:=by
 have hk:=run_convert_bytes_arg (P:=Tryz.prog) w 49 5 Tryz.underlying49 Tryz.underlying5 b off xs.length cap xs rfl hc 9 Tryz.underlying9;clear hc
 go_enter Tryz.func175,Tryz.ntmps175
 go_wp2;go_ret
 exact⟨rfl,rfl⟩
theorem yI(n:Nat)(w:World):Calls Tryz.prog 134 #[.int .u32 n] w λe w'=>e=.returned (.string (bs (le4 n)))/\Below w.heap.size w w':=by
 rw [← QK]
 go_enter Tryz.func134,Tryz.ntmps134
 go_wp2_with (go_at_call 175;refine(zid _ 0 _ [(n:Int)% 256,(n:Int) / 256 % 256,(n:Int) / 65536 % 256,(n:Int) / 16777216 % 256] _ (λi hi=>?_)).mono ?_)
 ·obtain rfl|rfl|rfl|rfl:i=0∨i=1∨i=2∨i=3:=by simp at hi;omega
  all_goals simp
 ·rintro e w'⟨rfl,rfl⟩
  go_wp2;go_ret
  exact⟨rfl,(N2 _ _).alloc (N0 _) _⟩
theorem zkA(a b:List UInt8):bs a++bs b=bs (a++b):=by
 apply ByteArray.ext;simp [bs]
theorem vA(d:List UInt8)(n:Nat):(bs d).extract 0 n=bs (d.take n):=by
 apply ByteArray.ext;simp [bs,ByteArray.data_extract]
theorem jk(d:List UInt8)(n:Nat):(bs d).extract n (bs d).size=bs (d.drop n):=by
 apply ByteArray.ext
 simp [bs,ByteArray.data_extract,ByteArray.size]
 exact List.take_of_length_le (by simp)
theorem yC(d:List UInt8):(bs d).toList=d:=by
 rw [ByteArray.toList_eq];simp [bs]
end Go.Proofs.YtofppfoioodblaaGreatDoor
namespace Go.Proofs
open Go.Shelf
def Tryz.lays156_ren:Go.Shelf.Ren:=⟨λ|156=>138|165=>179|166=>180|169=>181|240=>234|241=>235|276=>293|277=>294|n=>n,λ|31=>107|9=>9|3=>3|4=>4|0=>0|20=>20|72=>291|76=>277|70=>289|37=>49|75=>253|127=>371|164=>433|5=>5|80=>268|n=>n,λ|n=>n⟩
theorem Tryz.lays156:Go.Proofs.Lays.n156 Tryz.prog Tryz.lays156_ren:={
 mixed:=by kernel_rfl
 f156:=Tryz.func138.trans (congrArg some (by kernel_rfl))
 f165:=Tryz.func179.trans (congrArg some (by kernel_rfl))
 f166:=Tryz.func180.trans (congrArg some (by kernel_rfl))
 f169:=Tryz.func181.trans (congrArg some (by kernel_rfl))
 f240:=Tryz.func234.trans (congrArg some (by kernel_rfl))
 f241:=Tryz.func235.trans (congrArg some (by kernel_rfl))
 f276:=Tryz.func293.trans (congrArg some (by kernel_rfl))
 f277:=Tryz.func294.trans (congrArg some (by kernel_rfl))
 t0:=Tryz.underlying0
 a0:=Tryz.isAgg0
 z0:=Tryz.sizeOf0
 v0:=Tryz.zeroValue0
 t3:=Tryz.underlying3
 a3:=Tryz.isAgg3
 z3:=Tryz.sizeOf3
 v3:=Tryz.zeroValue3
 t4:=Tryz.underlying4
 a4:=Tryz.isAgg4
 z4:=Tryz.sizeOf4
 v4:=Tryz.zeroValue4
 t9:=Tryz.underlying9
 a9:=Tryz.isAgg9
 z9:=Tryz.sizeOf9
 v9:=Tryz.zeroValue9
 t20:=Tryz.underlying20
 a20:=Tryz.isAgg20
 z20:=Tryz.sizeOf20
 v20:=Tryz.zeroValue20
 t31:=Tryz.underlying107
 a31:=Tryz.isAgg107
 z31:=Tryz.sizeOf107
 v31:=Tryz.zeroValue107
 t37:=Tryz.underlying49
 a37:=Tryz.isAgg49
 z37:=Tryz.sizeOf49
 v37:=Tryz.zeroValue49
 t70:=Tryz.underlying289
 a70:=Tryz.isAgg289
 z70:=Tryz.sizeOf289
 v70:=Tryz.zeroValue289
 t72:=Tryz.underlying291
 a72:=Tryz.isAgg291
 z72:=Tryz.sizeOf291
 v72:=Tryz.zeroValue291
 t75:=Tryz.underlying253
 a75:=Tryz.isAgg253
 z75:=Tryz.sizeOf253
 v75:=Tryz.zeroValue253
 t76:=Tryz.underlying277
 a76:=Tryz.isAgg277
 z76:=Tryz.sizeOf277
 v76:=Tryz.zeroValue277
 t127:=Tryz.underlying371
 a127:=Tryz.isAgg371
 z127:=Tryz.sizeOf371
 v127:=Tryz.zeroValue371
 t164:=Tryz.underlying433
 a164:=Tryz.isAgg433
 z164:=Tryz.sizeOf433
 v164:=Tryz.zeroValue433}
theorem Tryz.Builder_Extra_156:Builder.Extra Tryz.prog Tryz.lays156_ren:={
 sizeBuilder:=by kernel_rfl
 liesBuilder:=by kernel_rfl
 t5:=Tryz.underlying5
 a5:=Tryz.isAgg5
 z5:=Tryz.sizeOf5
 v5:=Tryz.zeroValue5
 infoByte:=by kernel_rfl
 cellsByte:=by kernel_rfl
 sizeByte:=by kernel_rfl
 neB5:=by decide}
open Go.RowKit in
theorem Tryz.strings_Join(bk o c:Nat)(xs:List ByteArray)(sep:ByteArray)(w:World)(hcells:∀(j:Nat) x,xs[j]?=some x->w.cell? ⟨bk,o+j,none⟩=some (.string x))(hbk:bk<w.heap.size)(hN:xs.length<=140737488355328)(hcap:xs.length<=c)(hlen:(Lib.join (xs.map (·.data.toList)) sep.data.toList).length<=140737488355328):
 Calls Tryz.prog 138 #[.slice (some ⟨bk,o,none⟩) xs.length c,.string sep] w λe w'=>e=.returned (.string ⟨(Lib.join (xs.map (·.data.toList)) sep.data.toList).toArray⟩)/\Below w.heap.size w w':=Any.strings_Join Tryz.lays156 Tryz.Builder_Extra_156 bk o c xs sep w hcells hbk hN hcap hlen
def Tryz.lays125_ren:Go.Shelf.Ren:=⟨λ|125=>331|128=>352|129=>324|n=>n,λ|46=>33|3=>3|51=>35|53=>52|4=>4|5=>5|9=>9|n=>n,λ|n=>n⟩
theorem Tryz.lays125:Go.Proofs.Lays.n125 Tryz.prog Tryz.lays125_ren:={
 mixed:=by kernel_rfl
 f125:=Tryz.func331.trans (congrArg some (by kernel_rfl))
 f128:=Tryz.func352.trans (congrArg some (by kernel_rfl))
 f129:=Tryz.func324.trans (congrArg some (by kernel_rfl))
 t3:=Tryz.underlying3
 a3:=Tryz.isAgg3
 z3:=Tryz.sizeOf3
 v3:=Tryz.zeroValue3
 t4:=Tryz.underlying4
 a4:=Tryz.isAgg4
 z4:=Tryz.sizeOf4
 v4:=Tryz.zeroValue4
 t5:=Tryz.underlying5
 a5:=Tryz.isAgg5
 z5:=Tryz.sizeOf5
 v5:=Tryz.zeroValue5
 t9:=Tryz.underlying9
 a9:=Tryz.isAgg9
 z9:=Tryz.sizeOf9
 v9:=Tryz.zeroValue9
 t46:=Tryz.underlying33
 a46:=Tryz.isAgg33
 z46:=Tryz.sizeOf33
 v46:=Tryz.zeroValue33
 t51:=Tryz.underlying35
 a51:=Tryz.isAgg35
 z51:=Tryz.sizeOf35
 v51:=Tryz.zeroValue35
 t53:=Tryz.underlying52
 a53:=Tryz.isAgg52
 z53:=Tryz.sizeOf52
 v53:=Tryz.zeroValue52}
theorem Tryz.bits_Len(x:Int)(w:World)(h0:0<=x)(h1:x<=18446744073709551615):
 Calls Tryz.prog 331 #[.int .u64 x] w λe w'=>e=.returned (.int .i64 (Lib.bitLen x.toNat))/\w'=w:=Any.bits_Len Tryz.lays125 x w h0 h1
def Tryz.lays103_ren:Go.Shelf.Ren:=⟨λ|103=>290|210=>329|206=>168|n=>n,λ|9=>9|4=>4|24=>167|3=>3|n=>n,λ|n=>n⟩
theorem Tryz.lays103:Go.Proofs.Lays.n103 Tryz.prog Tryz.lays103_ren:={
 mixed:=by kernel_rfl
 f103:=Tryz.func290.trans (congrArg some (by kernel_rfl))
 f206:=Tryz.func168.trans (congrArg some (by kernel_rfl))
 f210:=Tryz.func329.trans (congrArg some (by kernel_rfl))
 t3:=Tryz.underlying3
 a3:=Tryz.isAgg3
 z3:=Tryz.sizeOf3
 v3:=Tryz.zeroValue3
 t4:=Tryz.underlying4
 a4:=Tryz.isAgg4
 z4:=Tryz.sizeOf4
 v4:=Tryz.zeroValue4
 t9:=Tryz.underlying9
 a9:=Tryz.isAgg9
 z9:=Tryz.sizeOf9
 v9:=Tryz.zeroValue9
 t24:=Tryz.underlying167
 a24:=Tryz.isAgg167
 z24:=Tryz.sizeOf167
 v24:=Tryz.zeroValue167}
open Go.RowKit in
theorem Tryz.strings_CutPrefix(s p:ByteArray)(w:World):
 Calls Tryz.prog 290 #[.string s,.string p] w λe w'=>e=.returned (.tuple #[.string ⟨(Lib.trimPrefix s.data.toList p.data.toList).toArray⟩,.bool (Lib.hasPrefix s.data.toList p.data.toList)])/\w'=w:=Any.strings_CutPrefix Tryz.lays103 s p w
def Tryz.lays104_ren:Go.Shelf.Ren:=⟨λ|104=>287|211=>328|207=>343|n=>n,λ|9=>9|4=>4|24=>167|3=>3|n=>n,λ|n=>n⟩
theorem Tryz.lays104:Go.Proofs.Lays.n104 Tryz.prog Tryz.lays104_ren:={
 mixed:=by kernel_rfl
 f104:=Tryz.func287.trans (congrArg some (by kernel_rfl))
 f207:=Tryz.func343.trans (congrArg some (by kernel_rfl))
 f211:=Tryz.func328.trans (congrArg some (by kernel_rfl))
 t3:=Tryz.underlying3
 a3:=Tryz.isAgg3
 z3:=Tryz.sizeOf3
 v3:=Tryz.zeroValue3
 t4:=Tryz.underlying4
 a4:=Tryz.isAgg4
 z4:=Tryz.sizeOf4
 v4:=Tryz.zeroValue4
 t9:=Tryz.underlying9
 a9:=Tryz.isAgg9
 z9:=Tryz.sizeOf9
 v9:=Tryz.zeroValue9
 t24:=Tryz.underlying167
 a24:=Tryz.isAgg167
 z24:=Tryz.sizeOf167
 v24:=Tryz.zeroValue167}
open Go.RowKit in
theorem Tryz.strings_CutSuffix(s p:ByteArray)(w:World)(hs:s.size<=9223372036854775807):
 Calls Tryz.prog 287 #[.string s,.string p] w λe w'=>e=.returned (.tuple #[.string ⟨(Lib.trimSuffix s.data.toList p.data.toList).toArray⟩,.bool (Lib.hasSuffix s.data.toList p.data.toList)])/\w'=w:=Any.strings_CutSuffix Tryz.lays104 s p w hs
def Tryz.lays122_ren:Go.Shelf.Ren:=⟨λ|122=>333|215=>353|n=>n,λ|3=>3|4=>4|n=>n,λ|n=>n⟩
theorem Tryz.lays122:Go.Proofs.Lays.n122 Tryz.prog Tryz.lays122_ren:={
 mixed:=by kernel_rfl
 f122:=Tryz.func333.trans (congrArg some (by kernel_rfl))
 f215:=Tryz.func353.trans (congrArg some (by kernel_rfl))
 t3:=Tryz.underlying3
 a3:=Tryz.isAgg3
 z3:=Tryz.sizeOf3
 v3:=Tryz.zeroValue3
 t4:=Tryz.underlying4
 a4:=Tryz.isAgg4
 z4:=Tryz.sizeOf4
 v4:=Tryz.zeroValue4}
open Go.RowKit in
theorem Tryz.cmp_Compare_int(x y:Int)(w:World):
 Calls Tryz.prog 333 #[.int .i64 x,.int .i64 y] w λe w'=>e=.returned (.int .i64 (Lib.compareInt x y))/\w'=w:=Any.cmp_Compare_int Tryz.lays122 x y w
def Tryz.lays107_ren:Go.Shelf.Ren:=⟨λ|107=>215|108=>265|n=>n,λ|28=>22|3=>3|4=>4|0=>0|n=>n,λ|n=>n⟩
theorem Tryz.lays107:Go.Proofs.Lays.n107 Tryz.prog Tryz.lays107_ren:={
 mixed:=by kernel_rfl
 f107:=Tryz.func215.trans (congrArg some (by kernel_rfl))
 f108:=Tryz.func265.trans (congrArg some (by kernel_rfl))
 t0:=Tryz.underlying0
 a0:=Tryz.isAgg0
 z0:=Tryz.sizeOf0
 v0:=Tryz.zeroValue0
 t3:=Tryz.underlying3
 a3:=Tryz.isAgg3
 z3:=Tryz.sizeOf3
 v3:=Tryz.zeroValue3
 t4:=Tryz.underlying4
 a4:=Tryz.isAgg4
 z4:=Tryz.sizeOf4
 v4:=Tryz.zeroValue4
 t28:=Tryz.underlying22
 a28:=Tryz.isAgg22
 z28:=Tryz.sizeOf22
 v28:=Tryz.zeroValue22}
open Go.Lib in
theorem Tryz.slices_Contains_int_empty(a:Option Addr)(c:Nat)(x:Int)(w:World):
 Calls Tryz.prog 215 #[.slice a 0 c,.int .i64 x] w λe w'=>e=.returned (.bool false)/\w'=w:=Any.slices_Contains_int_empty Tryz.lays107 a c x w
def Tryz.laysNm215_ren:Go.Shelf.Ren:=⟨λ|15=>43|n=>n,λ|22=>22|3=>3|4=>4|n=>n,λ|n=>n⟩
theorem Tryz.laysNm215:Go.Proofs.Lays2.n15 Tryz.prog Tryz.laysNm215_ren:={
 mixed:=by kernel_rfl
 f15:=Tryz.func43.trans (congrArg some (by kernel_rfl))
 t3:=Tryz.underlying3
 a3:=Tryz.isAgg3
 z3:=Tryz.sizeOf3
 v3:=Tryz.zeroValue3
 t4:=Tryz.underlying4
 a4:=Tryz.isAgg4
 z4:=Tryz.sizeOf4
 v4:=Tryz.zeroValue4
 t22:=Tryz.underlying22
 a22:=Tryz.isAgg22
 z22:=Tryz.sizeOf22
 v22:=Tryz.zeroValue22
 i3:=by kernel_rfl}
open Go.RowKit Go.Lib in
theorem Tryz.slices_Clone_int_nil(n c:Nat)(w:World):
 Calls Tryz.prog 43 #[.slice none n c] w λe w'=>e=.returned (.slice none 0 0)/\w'=w:=Any.slices_Clone_int_nil Tryz.laysNm215 n c w
end Go.Proofs
namespace Go.Proofs.YtofppfoioodblaaGreatDoor
open Go Go.RowKit Go.Shelf
attribute [local go_sem] Oper.semAt_some
def Vq(v:Int)(n:Nat):Bool:=known v && decide (n<=1000)
theorem Vr(v:Int)(c:Int)(d:ByteArray)(w:World):Calls Tryz.prog 229 #[.agg #[.int .i64 v,.int .u32 c,.string d]] w λe w'=>e=.returned (.bool (Vq v d.size))/\Below w.heap.size w w':=by
 cases hv:known v
 ·go_enter Tryz.func229,Tryz.ntmps229
  go_wp2_with (go_at_call 163;refine(vl _ _).mono ?_;rintro e w' ⟨rfl,hb⟩;obtain⟨hcA,hfA⟩:=zaD hb;have hz:=hb.size)
  go_ret
  exact⟨by simp [Vq,hv],((N2 _ _).alloc (N0 _) _).trans (Below.mono (by assumption) (by simp))⟩
 ·go_enter Tryz.func229,Tryz.ntmps229
  go_wp2_with (go_at_call 163;refine(vl _ _).mono ?_;rintro e w' ⟨rfl,hb⟩;obtain⟨hcA,hfA⟩:=zaD hb;have hz:=hb.size)
  go_ret
  refine⟨?_,((N2 _ _).alloc (N0 _) _).trans (Below.mono (by assumption) (by simp))⟩;simp [Vq,hv]
  try omega
def qX(v:Int):Int×Int:=if known v then(if v=1 then(1,0)else(2,0))else(0,130)
theorem zaG(v:Int)(w:World):Calls Tryz.prog 186 #[.int .i64 v] w λe w'=>e=.returned (.tuple #[.int .i64 (qX v).1,.int .i64 (qX v).2])/\Below w.heap.size w w':=by
 cases hv:known v
 ·go_enter Tryz.func186,Tryz.ntmps186
  go_wp2_with (go_at_call 163;refine(vl _ _).mono ?_;rintro e w' ⟨rfl,hb⟩)
  go_ret2
  exact⟨by simp [qX,hv],by assumption⟩
 ·by_cases h1:v=1
  ·have h1':(v==1)=true:=by simp [h1]
   go_enter Tryz.func186,Tryz.ntmps186
   go_wp2_with (go_at_call 163;refine(vl _ _).mono ?_;rintro e w' ⟨rfl,hb⟩)
   go_ret2
   exact⟨by subst h1;simp [qX,hv],by assumption⟩
  ·have h1':(v==1)=false:=by simp [h1]
   go_enter Tryz.func186,Tryz.ntmps186
   go_wp2_with (go_at_call 163;refine(vl _ _).mono ?_;rintro e w' ⟨rfl,hb⟩)
   go_ret2
   exact⟨by simp [qX,hv,h1],by assumption⟩
end Go.Proofs.YtofppfoioodblaaGreatDoor
namespace Go.Proofs.YtofppfoioodblaaGreatDoor
open Go Go.RowKit Go.Shelf Go.Extern.Stop Go.Stop Go.Extern
attribute [local go_sem] Oper.semAt_some
def jE(w:World)(a:Addr):Prop:=w.cell? ⟨2,0,none⟩=some (.iface 483 (.pointer (some a)))
theorem jE.below {B:Nat}{w w':World}{a:Addr}(h:jE w a)(hb:Below B w w')(hB:2<B):jE w' a:=(hb.cell hB).trans h
theorem jE.lt {w:World}{a:Addr}(h:jE w a):2<w.heap.size:=by
 unfold jE World.cell? at h
 rcases Nat.lt_or_ge 2 w.heap.size with h'|h'
 ·exact h'
 ·simp [Array.getElem?_eq_none h'] at h
theorem zce(s:ByteArray)(w:World):Calls Tryz.prog 288 #[.string s,.bool true] w λe w'=>e=.returned (.tuple #[.string s,.nilIface])/\w'=w:=by
 go_enter Tryz.func288,Tryz.ntmps288
 go_wp2;go_ret2
 exact⟨rfl,rfl⟩
theorem zgf(s:ByteArray)(a:Addr)(w:World)(he:jE w a):Calls Tryz.prog 288 #[.string s,.bool false] w λe w'=>e=.returned (.tuple #[.string ByteArray.empty,.iface 483 (.pointer (some a))])/\Below w.heap.size w w':=by
 unfold jE at he
 go_enter Tryz.func288,Tryz.ntmps288
 go_wp2
 go_quiet (fail)
 go_wp2;go_ret2
 exact⟨rfl,below_drewN (N2 _ _) _⟩
theorem zie(v:Value)(w:World):(Extern.ReflectliteType.typeOf #[.iface 483 v]).run Tryz.prog w=.ok (.iface 443 (.agg #[.pointer (some ⟨11,483,none⟩)])) w:=by kernel_rfl
theorem zaH(w:World):((Extern.ReflectliteType.method λt=>do Rtype.noPackHeld "Comparable" t;(λa=>Value.bool a.comparable)<$>typeInfo t) #[.agg #[.pointer (some ⟨11,483,none⟩)]]).run Tryz.prog w=.ok (.bool true) w:=by kernel_rfl
theorem Jl(v:Value)(w:World):(Go.method 640 443 v "Comparable").run Tryz.prog w=.ok (391,v) w:=by kernel_rfl
theorem zkB:(Tryz.prog.info? 483).map (·.comparable)=some true:=by kernel_rfl
theorem zkC:(Tryz.prog.info? 485).map (·.size)=some 1:=by kernel_rfl
theorem zjI(a:Addr)(w:World):
 Calls Tryz.prog 197 #[.iface 483 (.pointer (some a)),.iface 483 (.pointer (some a))] w λe w'=>e=.returned (.bool true)/\w'=w:=by
 obtain⟨i,hi,hcmp⟩:=Option.map_eq_some_iff.1 zkB;obtain⟨j,hj,hjs⟩:=Option.map_eq_some_iff.1 zkC;have h8:= @run_callFunc_extern Tryz.prog 246 _ Extern.ReflectliteType.typeOf Tryz.func246 (by kernel_rfl) (by kernel_rfl) (by kernel_rfl) (by kernel_rfl);have h32:= @run_callFunc_extern Tryz.prog 391 _ (Extern.ReflectliteType.method λt=>do Rtype.noPackHeld "Comparable" t;pure (.bool (← typeInfo t).comparable)) Tryz.func391 (by kernel_rfl) (by kernel_rfl) (by kernel_rfl) (by kernel_rfl);have tT:=zie;have cT:=zaH;have mR:=Jl;have heq:=run_eql_iface_ptr_same (P:=Tryz.prog) w a Tryz.underlying253 Tryz.underlying483 hi hcmp hj
 go_enter Tryz.func197,Tryz.ntmps197
 go_wp2;refine wp_loop_rounds 1 ?_;rw [rounds_succ];go_wp2;go_ret
 exact⟨rfl,rfl⟩
theorem zkD(b:Addr)(w:World):
 Calls Tryz.prog 197 #[.nilIface,.iface 483 (.pointer (some b))] w λe w'=>e=.returned (.bool false)/\w'=w:=by
 have hn:=run_eql_iface_nil_left (P:=Tryz.prog) w 483 (.pointer (some b)) Tryz.underlying253
 go_enter Tryz.func197,Tryz.ntmps197
 go_wp2;go_ret
 exact⟨rfl,rfl⟩
end Go.Proofs.YtofppfoioodblaaGreatDoor
namespace Go.Proofs.YtofppfoioodblaaGreatDoor
open Go Go.RowKit Go.Shelf Go.Extern.Stop Go.Stop Go.Extern
attribute [local go_sem] Oper.semAt_some
theorem Jm(l p:List UInt8)(w:World):Calls Tryz.prog 290 #[.string (bs l),.string (bs p)] w λe w'=>
 e=.returned (.tuple #[.string (bs (Lib.trimPrefix l p)),.bool (Lib.hasPrefix l p)])/\w'=w:=by
 have h:=Tryz.strings_CutPrefix (bs l) (bs p) w;rw [qw,qw] at h;exact h
theorem Jn(l p:List UInt8)(w:World)(hl:l.length<=9223372036854775807):Calls Tryz.prog 287 #[.string (bs l),.string (bs p)] w λe w'=>
 e=.returned (.tuple #[.string (bs (Lib.trimSuffix l p)),.bool (Lib.hasSuffix l p)])/\w'=w:=by
 have h:=Tryz.strings_CutSuffix (bs l) (bs p) w (by rw [zJ];exact hl);rw [qw,qw] at h;exact h
theorem zkE(a b:List UInt8):Lib.join [a,b] []=a++b:=by simp [Lib.join,List.intercalate]
theorem zdB(bk c:Nat)(x y:List UInt8)(w:World)(hx:w.cell? ⟨bk,0,none⟩=some (.string (bs x)))(hy:w.cell? ⟨bk,1,none⟩=some (.string (bs y)))(hbk:bk<w.heap.size)(hc:2<=c)
 (hl:(x++y).length<=140737488355328):Calls Tryz.prog 138 #[.slice (some ⟨bk,0,none⟩) 2 c,.string ⟨#[]⟩] w λe w'=>e=.returned (.string (bs (x++y)))/\Below w.heap.size w w':=by
 have hj:=Tryz.strings_Join bk 0 c [bs x,bs y] ⟨#[]⟩ w (λj z hz=>by
  obtain rfl|rfl|h:j=0∨j=1∨2<=j:=by omega
  ·simp at hz;subst hz;exact hx
  ·simp at hz;subst hz;exact hy
  ·rw [List.getElem?_eq_none (by simpa using h)] at hz;cases hz) hbk (by simp) (by simpa using hc) (by
   simp only [List.map_cons,List.map_nil,qw]
   rw [zkE];omega)
 simp only [List.map_cons,List.map_nil,qw] at hj;rw [zkE] at hj;exact hj
theorem zaI(bk c:Nat)(x y:List UInt8)(w:World)(hx:w.cell? ⟨bk,0,none⟩=some (.string (bs x)))(hy:w.cell? ⟨bk,1,none⟩=some (.string (bs y)))(hbk:bk<w.heap.size)(hc:2<=c)
 (hl:(x++y).length<=1000):Calls Tryz.prog 284 #[.slice (some ⟨bk,0,none⟩) 2 c] w λe w'=>e=.returned (.tuple #[.string (bs (x++y)),.nilIface])/\Below w.heap.size w w':=by
 have hj:=zdB bk c x y w hx hy hbk hc (by omega);have hle:decide (((bs (x++y)).size:Int)<=1000)=true:=by rw [zJ];simp only [decide_eq_true_eq];omega
 clear hx hy hl
 go_enter Tryz.func284,Tryz.ntmps284
 go_wp2_with (first|(go_at_call 138;refine hj.mono ?_;rintro e w' ⟨rfl,hb⟩)|(go_at_call 288;refine(zce _ _).mono ?_;rintro e w' ⟨rfl,rfl⟩))
 go_ret2
 exact⟨rfl,by assumption⟩
theorem zaJ(a:Addr)(bk c:Nat)(x y:List UInt8)(w:World)(he:jE w a)(hx:w.cell? ⟨bk,0,none⟩=some (.string (bs x)))(hy:w.cell? ⟨bk,1,none⟩=some (.string (bs y)))(hbk:bk<w.heap.size)(hc:2<=c)
 (hl:1000<(x++y).length) (hl2:(x++y).length<=140737488355328):Calls Tryz.prog 284 #[.slice (some ⟨bk,0,none⟩) 2 c] w λe w'=>e=.returned (.tuple #[.string ByteArray.empty,.iface 483 (.pointer (some a))])/\Below w.heap.size w w':=by
 have hj:=zdB bk c x y w hx hy hbk hc hl2;have hle:decide (((bs (x++y)).size:Int)<=1000)=false:=by rw [zJ];simp only [decide_eq_false_iff_not];omega
 have hlt:=he.lt;clear hx hy hl hl2
 go_enter Tryz.func284,Tryz.ntmps284
 go_wp2_with (first|(go_at_call 138;refine hj.mono ?_;rintro e w' ⟨rfl,hb⟩;have hE:=he.below hb hlt;have hs:=hb.size)|(go_at_call 288;refine(zgf _ a _ hE).mono ?_;rintro e w' ⟨rfl,hb2⟩))
 go_ret2
 exact⟨rfl,Below.trans (by assumption) (Below.mono (by assumption) (by assumption))⟩
theorem zcf(v:Int)(c:Nat)(d:List UInt8)(w:World)(hl:([98] ++d).length<=1000):
 Calls Tryz.prog 283 #[.agg #[.int .i64 v,.int .u32 c,.string (bs d)]] w λe w'=>e=.returned (.tuple #[.string (bs ([98] ++d)),.nilIface])/\Below w.heap.size w w':=by
 have hc0:((w.alloc (.cells #[.int .i64 v,.int .u32 ↑c,.string (bs d)] 115)).alloc (.cells #[.string ⟨#[98]⟩,.string (bs d)] 9)).cell? ⟨w.heap.size+1,0,none⟩=some (.string (bs [98])):=by simp;rfl
 have hc1:((w.alloc (.cells #[.int .i64 v,.int .u32 ↑c,.string (bs d)] 115)).alloc (.cells #[.string ⟨#[98]⟩,.string (bs d)] 9)).cell? ⟨w.heap.size+1,1,none⟩=some (.string (bs d)):=by simp
 go_enter Tryz.func283,Tryz.ntmps283
 go_wp2_with (go_at_call 284;(with_reducible refine(zaI (w.heap.size+1) _ [98] d _ hc0 hc1 (by simp) (by omega) hl).mono ?_);rintro e w' ⟨rfl,hb⟩)
 go_ret2
 exact⟨rfl,(((N2 _ _).alloc (N0 _) _).alloc (by simp) _).trans (Below.mono (by assumption) (by simp;omega))⟩
theorem zcg(a:Addr)(v:Int)(c:Nat)(d:List UInt8)(w:World)(he:jE w a)(hl:1000<([98] ++d).length)(hl2:d.length<=1000):
 Calls Tryz.prog 283 #[.agg #[.int .i64 v,.int .u32 c,.string (bs d)]] w λe w'=>e=.returned (.tuple #[.string ByteArray.empty,.iface 483 (.pointer (some a))])/\Below w.heap.size w w':=by
 have hc0:((w.alloc (.cells #[.int .i64 v,.int .u32 ↑c,.string (bs d)] 115)).alloc (.cells #[.string ⟨#[98]⟩,.string (bs d)] 9)).cell? ⟨w.heap.size+1,0,none⟩=some (.string (bs [98])):=by simp;rfl
 have hc1:((w.alloc (.cells #[.int .i64 v,.int .u32 ↑c,.string (bs d)] 115)).alloc (.cells #[.string ⟨#[98]⟩,.string (bs d)] 9)).cell? ⟨w.heap.size+1,1,none⟩=some (.string (bs d)):=by simp
 have hb0:Below w.heap.size w ((w.alloc (.cells #[.int .i64 v,.int .u32 ↑c,.string (bs d)] 115)).alloc (.cells #[.string ⟨#[98]⟩,.string (bs d)] 9)):=((N2 _ _).alloc (N0 _) _).alloc (by simp) _;have hE:=he.below hb0 he.lt;clear he
 go_enter Tryz.func283,Tryz.ntmps283
 go_wp2_with (go_at_call 284;(with_reducible refine(zaJ a (w.heap.size+1) _ [98] d _ hE hc0 hc1 (by simp) (by omega) hl (by simp;omega)).mono ?_);rintro e w' ⟨rfl,hb⟩)
 go_ret2
 exact⟨rfl,hb0.trans (Below.mono (by assumption) (by simp;omega))⟩
theorem zch(v:Int)(c:Nat)(d:List UInt8)(w:World)(hl:(d++le4 c).length<=1000):
 Calls Tryz.prog 285 #[.agg #[.int .i64 v,.int .u32 c,.string (bs d)]] w λe w'=>e=.returned (.tuple #[.string (bs (d++le4 c)),.nilIface])/\Below w.heap.size w w':=by
 go_enter Tryz.func285,Tryz.ntmps285
 go_wp2
 go_region_with (first
  |(go_at_call 134;(with_reducible refine(yI _ _).mono ?_);rintro e w1 ⟨rfl,hb⟩;have hz:=hb.size;obtain⟨hcA,hfA⟩:=zaD hb)
  |(go_at_call 284;(with_reducible refine(zaI _ _ d (le4 c) _ (by simp) (by simp) (by simp) (by omega) hl).mono ?_);rintro e w2 ⟨rfl,hb2⟩))
 all_goals go_wp2
 all_goals go_ret2
 all_goals exact⟨rfl,pbx⟩
theorem zci(a:Addr)(v:Int)(c:Nat)(d:List UInt8)(w:World)(he:jE w a)(hl:1000<(d++le4 c).length)(hl2:d.length<=1000):
 Calls Tryz.prog 285 #[.agg #[.int .i64 v,.int .u32 c,.string (bs d)]] w λe w'=>e=.returned (.tuple #[.string ByteArray.empty,.iface 483 (.pointer (some a))])/\Below w.heap.size w w':=by
 have hl3:(d++le4 c).length<=140737488355328:=by simp [zY];omega
 have hE:∀W,Below w.heap.size w W->jE W a:=λW hW=>he.below hW he.lt
 clear he
 go_enter Tryz.func285,Tryz.ntmps285
 go_wp2
 go_region_with (first
  |(go_at_call 134;(with_reducible refine(yI _ _).mono ?_);rintro e w1 ⟨rfl,hb⟩;have hz:=hb.size;obtain⟨hcA,hfA⟩:=zaD hb)
  |(go_at_call 284;(with_reducible refine(zaJ a _ _ d (le4 c) _ (hE _ (pbx)) (by simp) (by simp) (by simp) (by omega) hl hl3).mono ?_);rintro e w2 ⟨rfl,hb2⟩))
 all_goals go_wp2
 all_goals go_ret2
 all_goals exact⟨rfl,pbx⟩
theorem zev(v:Int)(c:Nat)(d:List UInt8)(w:World)(hd:d.length<=1000)(hs:Lib.hasSuffix d (le4 c)=true):
 Calls Tryz.prog 286 #[.agg #[.int .i64 v,.int .u32 c,.string (bs d)]] w λe w'=>e=.returned (.tuple #[.string (bs (Lib.trimSuffix d (le4 c))),.nilIface])/\Below w.heap.size w w':=by
 go_enter Tryz.func286,Tryz.ntmps286
 go_wp2
 go_region_with (first
  |(go_at_call 134;(with_reducible refine(yI _ _).mono ?_);rintro e w1 ⟨rfl,hb⟩;have hz:=hb.size;obtain⟨hcA,hfA⟩:=zaD hb)
  |(go_at_call 287;(with_reducible refine(Jn _ _ _ (by omega)).mono ?_);rintro e w2 ⟨rfl,rfl⟩))
 all_goals go_wp2_with (go_at_call 288;(with_reducible refine(zce _ _).mono ?_);rintro e w2 ⟨rfl,rfl⟩)
 all_goals go_ret2
 all_goals exact⟨rfl,pbx⟩
theorem zgg(a:Addr)(v:Int)(c:Nat)(d:List UInt8)(w:World)(he:jE w a)(hd:d.length<=1000)(hs:Lib.hasSuffix d (le4 c)=false):
 Calls Tryz.prog 286 #[.agg #[.int .i64 v,.int .u32 c,.string (bs d)]] w λe w'=>e=.returned (.tuple #[.string ByteArray.empty,.iface 483 (.pointer (some a))])/\Below w.heap.size w w':=by
 have hE:∀W,Below w.heap.size w W->jE W a:=λW hW=>he.below hW he.lt
 clear he
 go_enter Tryz.func286,Tryz.ntmps286
 go_wp2
 go_region_with (first
  |(go_at_call 134;(with_reducible refine(yI _ _).mono ?_);rintro e w1 ⟨rfl,hb⟩;have hz:=hb.size;obtain⟨hcA,hfA⟩:=zaD hb)
  |(go_at_call 287;(with_reducible refine(Jn _ _ _ (by omega)).mono ?_);rintro e w2 ⟨rfl,rfl⟩))
 all_goals go_wp2_with (go_at_call 288;(with_reducible refine(zgf _ a _ (hE _ (pbx))).mono ?_);rintro e w2 ⟨rfl,hb2⟩)
 all_goals go_ret2
 all_goals exact⟨rfl,pbx⟩
theorem zew(v:Int)(c:Nat)(d:List UInt8)(w:World)(hs:Lib.hasPrefix d [98]=true):
 Calls Tryz.prog 289 #[.agg #[.int .i64 v,.int .u32 c,.string (bs d)]] w λe w'=>e=.returned (.tuple #[.string (bs (Lib.trimPrefix d [98])),.nilIface])/\Below w.heap.size w w':=by
 have hp:=λW=>Jm d [98] W
 rw [hs] at hp;clear hs
 go_enter Tryz.func289,Tryz.ntmps289
 go_wp2_with (first
  |(go_at_call 290;refine(hp _).mono ?_;rintro e w2 ⟨rfl,rfl⟩)
  |(go_at_call 288;(with_reducible refine(zce _ _).mono ?_);rintro e w2 ⟨rfl,rfl⟩))
 go_ret2
 exact⟨rfl,pbx⟩
theorem zgh(a:Addr)(v:Int)(c:Nat)(d:List UInt8)(w:World)(he:jE w a)(hs:Lib.hasPrefix d [98]=false):
 Calls Tryz.prog 289 #[.agg #[.int .i64 v,.int .u32 c,.string (bs d)]] w λe w'=>e=.returned (.tuple #[.string ByteArray.empty,.iface 483 (.pointer (some a))])/\Below w.heap.size w w':=by
 have hp:=λW=>Jm d [98] W
 rw [hs] at hp;have hE:∀W,Below w.heap.size w W->jE W a:=λW hW=>he.below hW he.lt
 clear hs he
 go_enter Tryz.func289,Tryz.ntmps289
 go_wp2_with (first
  |(go_at_call 290;refine(hp _).mono ?_;rintro e w2 ⟨rfl,rfl⟩)
  |(go_at_call 288;(with_reducible refine(zgf _ a _ (hE _ (pbx))).mono ?_);rintro e w2 ⟨rfl,hb2⟩))
 go_ret2
 exact⟨rfl,pbx⟩
end Go.Proofs.YtofppfoioodblaaGreatDoor
namespace Go.Proofs.YtofppfoioodblaaGreatDoor
open Go Go.RowKit Go.ChangeShapes Go.WideShapes Go.ChangeAt
theorem own:ownKnob Tryz.prog.godebug=none:=by kernel_rfl
theorem zjJ:laidOutB Tryz.prog=true:=by kernel_rfl
theorem zlq:Tryz.prog.globalNamed "rostrum/registry.errTurn" =some 2:=by kernel_rfl
theorem zif:(Tryz.prog.globals[2]?).map (·.type)=some 253:=by kernel_rfl
theorem zig:Tryz.prog.cellsOf 485=1:=by kernel_rfl
theorem zih:Tryz.prog.cellsOf 9=1:=by kernel_rfl
theorem zlr: "*" ++ "errors.errorString" = "*errors.errorString" :=by decide
theorem zkF(u:TypeId)(h:Tryz.prog.typeName? 3 u=some "*errors.errorString"):u=483:=
 typeName_ptr_named (nm:= "errors.errorString") (by rw [zlr];kernel_rfl) (by kernel_rfl) (by decide) u (by rw [zlr];exact h)
theorem zaK {P:Program}{x:String×DataW Unit}{r:List (String×DataW Unit)}{W:World}(h:laidMet P (x::r) W):laidMet P r W:=by
 obtain⟨ps,⟨g,t,cs,fuel,p,q,hg,ht,hv,hd,hq,e⟩,hn,hr⟩:=h;subst e;exact⟨q,hq,(List.nodup_append.1 hn).2.1,λb off hm=>hr b off (by simp [hm])⟩
abbrev zjK:List (String×DataW Unit):=[("rostrum/frame.errFrame",Rows.laid_rostrum_frame_errFrame),("rostrum/frame.errOld",Rows.laid_rostrum_frame_errOld),("rostrum/registry.errTurn",Rows.laid_rostrum_registry_errTurn)]
theorem zcj {W:World}(h:laidMetH Tryz.prog zjK W):∃a,jE W a:=by
 have h3:laidMet Tryz.prog [("rostrum/registry.errTurn",Rows.laid_rostrum_registry_errTurn)] W:=zaK (zaK (show laidMet Tryz.prog zjK W from h));obtain⟨a,s,hv,_⟩:=laid_sentinel (r:=[]) h3 zlq zif Tryz.underlying253 zkF Tryz.underlying483 Tryz.underlying485 rfl rfl Tryz.underlying9 zig zih;exact⟨a,by simpa [jE] using World.var?_cell zlq hv 0⟩
abbrev zii:ByteArray:=⟨#[110,111,32,102,114,97,109,101]⟩
abbrev zkG:ByteArray:=⟨#[110,111,32,118,101,114,115,105,111,110,32,111,102,32,116,104,101,32,119,105,114,101]⟩
abbrev zjL:ByteArray:=⟨#[97,32,115,116,97,116,101,32,99,97,110,110,111,116,32,98,101,32,116,117,114,110,101,100]⟩
noncomputable def low:Nat:=(World.holding Tryz.prog default ⟨#[],#[],[]⟩).heap.size
noncomputable def zjM(i:Nat):Obj->Obj
 | .cells _ t frozen=>.cells #[.iface 483 (.pointer (some ⟨low+i,0,none⟩))] t frozen
 |o=>o
noncomputable def Vs(os:Os):World:=
 let w0:=World.holding Tryz.prog os ⟨#[.cells #[.string zii] 485,.cells #[.string zkG] 485,.cells #[.string zjL] 485],#[],[]⟩
 {w0 with heap:=((w0.heap.modify 0 (zjM 0)).modify 1 (zjM 1)).modify 2 (zjM 2)}
theorem zij(os:Os)(args:Array Value):laidMet Tryz.prog zjK ((Vs os).forCall (λ_ _=>0) ⟨#[],args,[]⟩).memory:=
 laidMet_of_run' 8 (by kernel_rfl) (by kernel_rfl)
end Go.Proofs.YtofppfoioodblaaGreatDoor
