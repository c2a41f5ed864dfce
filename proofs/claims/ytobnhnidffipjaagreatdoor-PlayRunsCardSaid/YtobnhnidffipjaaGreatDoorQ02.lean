/- PARTS OF THE PROOF. -/
import Derived.Outline
import Derived.LaidEql
import Derived.RowKitTokens
import Derived.BigQuiet
import Derived.Deep.QuietTactic
import Derived.Laws.BytesArg
import Derived.WalkSmall
import Derived.Shelf.Strings.Builder1
import Derived.Shelf.Strings.Builder2
import Derived.Shelf.Strings.OnBuilder
import Derived.Shelf.Small.Bits
import Derived.Shelf.Small.Wraps
import Derived.Shelf.Strconv.Itoa0
import Derived.Shelf.Strings.Prefix
import Derived.Shelf.Slices.Turned
import Derived.Ground.Names2Prog
import Derived.Shelf.Slices.Clone
import Derived.Shelf.Slices.SearchI
import Derived.Stop.Asserts
import Derived.Deep.RegionWith
import Derived.OpenShut
import Derived.Deep.DeepHandedRow
import Derived.Deep.DeepWitnessRowRef
import Derived.Stop.LaidErr
import Derived.Lib.SmallJoins
import Derived.Test.YtobnhnidffipjaaGreatDoorProg
import Derived.Test.YtobnhnidffipjaaGreatDoorCards
import Derived.Test.YtobnhnidffipjaaGreatDoorTie
import Derived.Test.YtobnhnidffipjaaGreatDoorQ01
set_option maxRecDepth 8000
set_option maxHeartbeats 4000000
namespace Go.Proofs.YtobnhnidffipjaaGreatDoor
open Go Go.RowKit Go.Shelf Go.Extern.Stop Go.Stop Go.Extern
attribute [local go_sem] Oper.semAt_some
def le4(n:Nat):List UInt8:=[UInt8.ofNat n,UInt8.ofNat (n / 256),UInt8.ofNat (n / 65536),UInt8.ofNat (n / 16777216)]
theorem jb(n:Nat):(le4 n).length=4:=rfl
def bs(l:List UInt8):ByteArray:=⟨l.toArray⟩
theorem qy(l:List UInt8):(bs l).data.toList=l:=by simp [bs]
theorem zC(l:List UInt8):(bs l).size=l.length:=by simp [bs,ByteArray.size]
theorem zkM(s:ByteArray):bs s.data.toList=s:=by cases s;rfl
theorem Jn(n:Nat):UInt8.ofNat (n % 256)=UInt8.ofNat n:=by
 apply UInt8.toNat_inj.1;simp
theorem Vn(n:Nat):((n:Int)% 256).toNat=n % 256:=by omega
theorem QJ(n:Nat):strOfNums [(n:Int)% 256,(n:Int) / 256 % 256,(n:Int) / 65536 % 256,(n:Int) / 16777216 % 256]=bs (le4 n):=by
 have h1:((n:Int) / 256)=((n / 256:Nat):Int):=by omega
 have h2:((n:Int) / 65536)=((n / 65536:Nat):Int):=by omega
 have h3:((n:Int) / 16777216)=((n / 16777216:Nat):Int):=by omega
 unfold strOfNums bs le4;rw [h1,h2,h3];simp only [List.map_cons,List.map_nil,Vn,Jn]
theorem zdz(b off cap:Nat)(xs:List Int)(w:World)(hc:∀i,i<xs.length->w.cell? ⟨b,off+i,none⟩=some (.int .u8 (xs.getD i 0))):
 Calls Tryz.prog 145 #[.slice (some ⟨b,off,none⟩) xs.length cap] w λe w'=>e=.returned (.string (strOfNums xs))/\w'=w:=by
 have hk:=run_convert_bytes_arg (P:=Tryz.prog) w 130 5 Tryz.underlying130 Tryz.underlying5 b off xs.length cap xs rfl hc 9 Tryz.underlying9;clear hc
 go_enter Tryz.func145,Tryz.ntmps145
 go_wp2;go_ret
 exact⟨rfl,rfl⟩
theorem yF(n:Nat)(w:World):Calls Tryz.prog 109 #[.int .u32 n] w λe w'=>e=.returned (.string (bs (le4 n)))/\Below w.heap.size w w':=by
 rw [← QJ]
 go_enter Tryz.func109,Tryz.ntmps109
 go_wp2_with (go_at_call 145;refine(zdz _ 0 _ [(n:Int)% 256,(n:Int) / 256 % 256,(n:Int) / 65536 % 256,(n:Int) / 16777216 % 256] _ (λi hi=>?_)).mono ?_)
 ·obtain rfl|rfl|rfl|rfl:i=0∨i=1∨i=2∨i=3:=by simp at hi;omega
  all_goals simp
 ·rintro e w'⟨rfl,rfl⟩
  go_wp2;go_ret
  exact⟨rfl,(N2 _ _).alloc (N0 _) _⟩
theorem zkd(a b:List UInt8):bs a++bs b=bs (a++b):=by
 apply ByteArray.ext;simp [bs]
theorem yQ(d:List UInt8)(n:Nat):(bs d).extract 0 n=bs (d.take n):=by
 apply ByteArray.ext;simp [bs,ByteArray.data_extract]
theorem z8(d:List UInt8)(n:Nat):(bs d).extract n (bs d).size=bs (d.drop n):=by
 apply ByteArray.ext
 simp [bs,ByteArray.data_extract,ByteArray.size]
 exact List.take_of_length_le (by simp)
theorem y6(d:List UInt8):(bs d).toList=d:=by
 rw [ByteArray.toList_eq];simp [bs]
end Go.Proofs.YtobnhnidffipjaaGreatDoor
namespace Go.Proofs
open Go.Shelf
def Tryz.lays156_ren:Go.Shelf.Ren:=⟨λ|156=>113|165=>149|166=>150|169=>151|240=>194|241=>195|276=>241|277=>242|n=>n,λ|31=>167|9=>9|3=>3|4=>4|0=>0|20=>20|72=>248|76=>250|70=>246|37=>130|75=>209|127=>326|164=>373|5=>5|80=>224|n=>n,λ|n=>n⟩
theorem Tryz.lays156:Go.Proofs.Lays.n156 Tryz.prog Tryz.lays156_ren:={
 mixed:=by kernel_rfl
 f156:=Tryz.func113.trans (congrArg some (by kernel_rfl))
 f165:=Tryz.func149.trans (congrArg some (by kernel_rfl))
 f166:=Tryz.func150.trans (congrArg some (by kernel_rfl))
 f169:=Tryz.func151.trans (congrArg some (by kernel_rfl))
 f240:=Tryz.func194.trans (congrArg some (by kernel_rfl))
 f241:=Tryz.func195.trans (congrArg some (by kernel_rfl))
 f276:=Tryz.func241.trans (congrArg some (by kernel_rfl))
 f277:=Tryz.func242.trans (congrArg some (by kernel_rfl))
 t0:=Tryz.underlying0
 a0:=Tryz.isAgg0
 z0:=Tryz.sizeOf0
 v0:=Tryz.zeroValue0
 t3:=Tryz.underlying3
 a3:=Tryz.isAgg3
 z3:=Tryz.sizeOf3
 v3:=Tryz.zeroValue3
 t4:=Tryz.underlying4
 a4:=Tryz.isAgg4
 z4:=Tryz.sizeOf4
 v4:=Tryz.zeroValue4
 t9:=Tryz.underlying9
 a9:=Tryz.isAgg9
 z9:=Tryz.sizeOf9
 v9:=Tryz.zeroValue9
 t20:=Tryz.underlying20
 a20:=Tryz.isAgg20
 z20:=Tryz.sizeOf20
 v20:=Tryz.zeroValue20
 t31:=Tryz.underlying167
 a31:=Tryz.isAgg167
 z31:=Tryz.sizeOf167
 v31:=Tryz.zeroValue167
 t37:=Tryz.underlying130
 a37:=Tryz.isAgg130
 z37:=Tryz.sizeOf130
 v37:=Tryz.zeroValue130
 t70:=Tryz.underlying246
 a70:=Tryz.isAgg246
 z70:=Tryz.sizeOf246
 v70:=Tryz.zeroValue246
 t72:=Tryz.underlying248
 a72:=Tryz.isAgg248
 z72:=Tryz.sizeOf248
 v72:=Tryz.zeroValue248
 t75:=Tryz.underlying209
 a75:=Tryz.isAgg209
 z75:=Tryz.sizeOf209
 v75:=Tryz.zeroValue209
 t76:=Tryz.underlying250
 a76:=Tryz.isAgg250
 z76:=Tryz.sizeOf250
 v76:=Tryz.zeroValue250
 t127:=Tryz.underlying326
 a127:=Tryz.isAgg326
 z127:=Tryz.sizeOf326
 v127:=Tryz.zeroValue326
 t164:=Tryz.underlying373
 a164:=Tryz.isAgg373
 z164:=Tryz.sizeOf373
 v164:=Tryz.zeroValue373}
theorem Tryz.Builder_Extra_156:Builder.Extra Tryz.prog Tryz.lays156_ren:={
 sizeBuilder:=by kernel_rfl
 liesBuilder:=by kernel_rfl
 t5:=Tryz.underlying5
 a5:=Tryz.isAgg5
 z5:=Tryz.sizeOf5
 v5:=Tryz.zeroValue5
 infoByte:=by kernel_rfl
 cellsByte:=by kernel_rfl
 sizeByte:=by kernel_rfl
 neB5:=by decide}
open Go.RowKit in
theorem Tryz.strings_Join(bk o c:Nat)(xs:List ByteArray)(sep:ByteArray)(w:World)(hcells:∀(j:Nat) x,xs[j]?=some x->w.cell? ⟨bk,o+j,none⟩=some (.string x))(hbk:bk<w.heap.size)(hN:xs.length<=140737488355328)(hcap:xs.length<=c)(hlen:(Lib.join (xs.map (·.data.toList)) sep.data.toList).length<=140737488355328):
 Calls Tryz.prog 113 #[.slice (some ⟨bk,o,none⟩) xs.length c,.string sep] w λe w'=>e=.returned (.string ⟨(Lib.join (xs.map (·.data.toList)) sep.data.toList).toArray⟩)/\Below w.heap.size w w':=Any.strings_Join Tryz.lays156 Tryz.Builder_Extra_156 bk o c xs sep w hcells hbk hN hcap hlen
def Tryz.lays125_ren:Go.Shelf.Ren:=⟨λ|125=>262|128=>279|129=>280|n=>n,λ|46=>204|3=>3|51=>30|53=>84|4=>4|5=>5|9=>9|n=>n,λ|n=>n⟩
theorem Tryz.lays125:Go.Proofs.Lays.n125 Tryz.prog Tryz.lays125_ren:={
 mixed:=by kernel_rfl
 f125:=Tryz.func262.trans (congrArg some (by kernel_rfl))
 f128:=Tryz.func279.trans (congrArg some (by kernel_rfl))
 f129:=Tryz.func280.trans (congrArg some (by kernel_rfl))
 t3:=Tryz.underlying3
 a3:=Tryz.isAgg3
 z3:=Tryz.sizeOf3
 v3:=Tryz.zeroValue3
 t4:=Tryz.underlying4
 a4:=Tryz.isAgg4
 z4:=Tryz.sizeOf4
 v4:=Tryz.zeroValue4
 t5:=Tryz.underlying5
 a5:=Tryz.isAgg5
 z5:=Tryz.sizeOf5
 v5:=Tryz.zeroValue5
 t9:=Tryz.underlying9
 a9:=Tryz.isAgg9
 z9:=Tryz.sizeOf9
 v9:=Tryz.zeroValue9
 t46:=Tryz.underlying204
 a46:=Tryz.isAgg204
 z46:=Tryz.sizeOf204
 v46:=Tryz.zeroValue204
 t51:=Tryz.underlying30
 a51:=Tryz.isAgg30
 z51:=Tryz.sizeOf30
 v51:=Tryz.zeroValue30
 t53:=Tryz.underlying84
 a53:=Tryz.isAgg84
 z53:=Tryz.sizeOf84
 v53:=Tryz.zeroValue84}
theorem Tryz.bits_Len(x:Int)(w:World)(h0:0<=x)(h1:x<=18446744073709551615):
 Calls Tryz.prog 262 #[.int .u64 x] w λe w'=>e=.returned (.int .i64 (Lib.bitLen x.toNat))/\w'=w:=Any.bits_Len Tryz.lays125 x w h0 h1
def Tryz.lays103_ren:Go.Shelf.Ren:=⟨λ|103=>238|210=>267|206=>284|n=>n,λ|9=>9|4=>4|24=>128|3=>3|n=>n,λ|n=>n⟩
theorem Tryz.lays103:Go.Proofs.Lays.n103 Tryz.prog Tryz.lays103_ren:={
 mixed:=by kernel_rfl
 f103:=Tryz.func238.trans (congrArg some (by kernel_rfl))
 f206:=Tryz.func284.trans (congrArg some (by kernel_rfl))
 f210:=Tryz.func267.trans (congrArg some (by kernel_rfl))
 t3:=Tryz.underlying3
 a3:=Tryz.isAgg3
 z3:=Tryz.sizeOf3
 v3:=Tryz.zeroValue3
 t4:=Tryz.underlying4
 a4:=Tryz.isAgg4
 z4:=Tryz.sizeOf4
 v4:=Tryz.zeroValue4
 t9:=Tryz.underlying9
 a9:=Tryz.isAgg9
 z9:=Tryz.sizeOf9
 v9:=Tryz.zeroValue9
 t24:=Tryz.underlying128
 a24:=Tryz.isAgg128
 z24:=Tryz.sizeOf128
 v24:=Tryz.zeroValue128}
open Go.RowKit in
theorem Tryz.strings_CutPrefix(s p:ByteArray)(w:World):
 Calls Tryz.prog 238 #[.string s,.string p] w λe w'=>e=.returned (.tuple #[.string ⟨(Lib.trimPrefix s.data.toList p.data.toList).toArray⟩,.bool (Lib.hasPrefix s.data.toList p.data.toList)])/\w'=w:=Any.strings_CutPrefix Tryz.lays103 s p w
def Tryz.lays104_ren:Go.Shelf.Ren:=⟨λ|104=>235|211=>266|207=>283|n=>n,λ|9=>9|4=>4|24=>128|3=>3|n=>n,λ|n=>n⟩
theorem Tryz.lays104:Go.Proofs.Lays.n104 Tryz.prog Tryz.lays104_ren:={
 mixed:=by kernel_rfl
 f104:=Tryz.func235.trans (congrArg some (by kernel_rfl))
 f207:=Tryz.func283.trans (congrArg some (by kernel_rfl))
 f211:=Tryz.func266.trans (congrArg some (by kernel_rfl))
 t3:=Tryz.underlying3
 a3:=Tryz.isAgg3
 z3:=Tryz.sizeOf3
 v3:=Tryz.zeroValue3
 t4:=Tryz.underlying4
 a4:=Tryz.isAgg4
 z4:=Tryz.sizeOf4
 v4:=Tryz.zeroValue4
 t9:=Tryz.underlying9
 a9:=Tryz.isAgg9
 z9:=Tryz.sizeOf9
 v9:=Tryz.zeroValue9
 t24:=Tryz.underlying128
 a24:=Tryz.isAgg128
 z24:=Tryz.sizeOf128
 v24:=Tryz.zeroValue128}
open Go.RowKit in
theorem Tryz.strings_CutSuffix(s p:ByteArray)(w:World)(hs:s.size<=9223372036854775807):
 Calls Tryz.prog 235 #[.string s,.string p] w λe w'=>e=.returned (.tuple #[.string ⟨(Lib.trimSuffix s.data.toList p.data.toList).toArray⟩,.bool (Lib.hasSuffix s.data.toList p.data.toList)])/\w'=w:=Any.strings_CutSuffix Tryz.lays104 s p w hs
def Tryz.lays122_ren:Go.Shelf.Ren:=⟨λ|122=>264|215=>281|n=>n,λ|3=>3|4=>4|n=>n,λ|n=>n⟩
theorem Tryz.lays122:Go.Proofs.Lays.n122 Tryz.prog Tryz.lays122_ren:={
 mixed:=by kernel_rfl
 f122:=Tryz.func264.trans (congrArg some (by kernel_rfl))
 f215:=Tryz.func281.trans (congrArg some (by kernel_rfl))
 t3:=Tryz.underlying3
 a3:=Tryz.isAgg3
 z3:=Tryz.sizeOf3
 v3:=Tryz.zeroValue3
 t4:=Tryz.underlying4
 a4:=Tryz.isAgg4
 z4:=Tryz.sizeOf4
 v4:=Tryz.zeroValue4}
open Go.RowKit in
theorem Tryz.cmp_Compare_int(x y:Int)(w:World):
 Calls Tryz.prog 264 #[.int .i64 x,.int .i64 y] w λe w'=>e=.returned (.int .i64 (Lib.compareInt x y))/\w'=w:=Any.cmp_Compare_int Tryz.lays122 x y w
def Tryz.lays107_ren:Go.Shelf.Ren:=⟨λ|107=>179|108=>221|n=>n,λ|28=>79|3=>3|4=>4|0=>0|n=>n,λ|n=>n⟩
theorem Tryz.lays107:Go.Proofs.Lays.n107 Tryz.prog Tryz.lays107_ren:={
 mixed:=by kernel_rfl
 f107:=Tryz.func179.trans (congrArg some (by kernel_rfl))
 f108:=Tryz.func221.trans (congrArg some (by kernel_rfl))
 t0:=Tryz.underlying0
 a0:=Tryz.isAgg0
 z0:=Tryz.sizeOf0
 v0:=Tryz.zeroValue0
 t3:=Tryz.underlying3
 a3:=Tryz.isAgg3
 z3:=Tryz.sizeOf3
 v3:=Tryz.zeroValue3
 t4:=Tryz.underlying4
 a4:=Tryz.isAgg4
 z4:=Tryz.sizeOf4
 v4:=Tryz.zeroValue4
 t28:=Tryz.underlying79
 a28:=Tryz.isAgg79
 z28:=Tryz.sizeOf79
 v28:=Tryz.zeroValue79}
open Go.Lib in
theorem Tryz.slices_Contains_int_empty(a:Option Addr)(c:Nat)(x:Int)(w:World):
 Calls Tryz.prog 179 #[.slice a 0 c,.int .i64 x] w λe w'=>e=.returned (.bool false)/\w'=w:=Any.slices_Contains_int_empty Tryz.lays107 a c x w
def Tryz.laysNm215_ren:Go.Shelf.Ren:=⟨λ|15=>47|n=>n,λ|22=>79|3=>3|4=>4|n=>n,λ|n=>n⟩
theorem Tryz.laysNm215:Go.Proofs.Lays2.n15 Tryz.prog Tryz.laysNm215_ren:={
 mixed:=by kernel_rfl
 f15:=Tryz.func47.trans (congrArg some (by kernel_rfl))
 t3:=Tryz.underlying3
 a3:=Tryz.isAgg3
 z3:=Tryz.sizeOf3
 v3:=Tryz.zeroValue3
 t4:=Tryz.underlying4
 a4:=Tryz.isAgg4
 z4:=Tryz.sizeOf4
 v4:=Tryz.zeroValue4
 t22:=Tryz.underlying79
 a22:=Tryz.isAgg79
 z22:=Tryz.sizeOf79
 v22:=Tryz.zeroValue79
 i3:=by kernel_rfl}
open Go.RowKit Go.Lib in
theorem Tryz.slices_Clone_int_nil(n c:Nat)(w:World):
 Calls Tryz.prog 47 #[.slice none n c] w λe w'=>e=.returned (.slice none 0 0)/\w'=w:=Any.slices_Clone_int_nil Tryz.laysNm215 n c w
end Go.Proofs
namespace Go.Proofs.YtobnhnidffipjaaGreatDoor
open Go Go.RowKit Go.Shelf
attribute [local go_sem] Oper.semAt_some
def Vo(v:Int)(n:Nat):Bool:=known v && decide (n<=1000)
theorem Vp(v:Int)(c:Int)(d:ByteArray)(w:World):Calls Tryz.prog 189 #[.agg #[.int .i64 v,.int .u32 c,.string d]] w λe w'=>e=.returned (.bool (Vo v d.size))/\Below w.heap.size w w':=by
 cases hv:known v
 ·go_enter Tryz.func189,Tryz.ntmps189
  go_wp2_with (go_at_call 134;refine(yP _ _).mono ?_;rintro e w' ⟨rfl,hb⟩;obtain⟨hcA,hfA⟩:=zaB hb;have hz:=hb.size)
  go_ret
  exact⟨by simp [Vo,hv],((N2 _ _).alloc (N0 _) _).trans (Below.mono (by assumption) (by simp))⟩
 ·go_enter Tryz.func189,Tryz.ntmps189
  go_wp2_with (go_at_call 134;refine(yP _ _).mono ?_;rintro e w' ⟨rfl,hb⟩;obtain⟨hcA,hfA⟩:=zaB hb;have hz:=hb.size)
  go_ret
  refine⟨?_,((N2 _ _).alloc (N0 _) _).trans (Below.mono (by assumption) (by simp))⟩;simp [Vo,hv]
  try omega
def qY(v:Int):Int×Int:=if known v then(if v=1 then(1,0)else(2,0))else(0,130)
theorem zaD(v:Int)(w:World):Calls Tryz.prog 138 #[.int .i64 v] w λe w'=>e=.returned (.tuple #[.int .i64 (qY v).1,.int .i64 (qY v).2])/\Below w.heap.size w w':=by
 cases hv:known v
 ·go_enter Tryz.func138,Tryz.ntmps138
  go_wp2_with (go_at_call 134;refine(yP _ _).mono ?_;rintro e w' ⟨rfl,hb⟩)
  go_ret2
  exact⟨by simp [qY,hv],by assumption⟩
 ·by_cases h1:v=1
  ·have h1':(v==1)=true:=by simp [h1]
   go_enter Tryz.func138,Tryz.ntmps138
   go_wp2_with (go_at_call 134;refine(yP _ _).mono ?_;rintro e w' ⟨rfl,hb⟩)
   go_ret2
   exact⟨by subst h1;simp [qY,hv],by assumption⟩
  ·have h1':(v==1)=false:=by simp [h1]
   go_enter Tryz.func138,Tryz.ntmps138
   go_wp2_with (go_at_call 134;refine(yP _ _).mono ?_;rintro e w' ⟨rfl,hb⟩)
   go_ret2
   exact⟨by simp [qY,hv,h1],by assumption⟩
end Go.Proofs.YtobnhnidffipjaaGreatDoor
namespace Go.Proofs.YtobnhnidffipjaaGreatDoor
open Go Go.RowKit Go.Shelf Go.Extern.Stop Go.Stop Go.Extern
attribute [local go_sem] Oper.semAt_some
def jA(w:World)(a:Addr):Prop:=w.cell? ⟨2,0,none⟩=some (.iface 432 (.pointer (some a)))
theorem jA.below {B:Nat}{w w':World}{a:Addr}(h:jA w a)(hb:Below B w w')(hB:2<B):jA w' a:=(hb.cell hB).trans h
theorem jA.lt {w:World}{a:Addr}(h:jA w a):2<w.heap.size:=by
 unfold jA World.cell? at h
 rcases Nat.lt_or_ge 2 w.heap.size with h'|h'
 ·exact h'
 ·simp [Array.getElem?_eq_none h'] at h
theorem zb9(s:ByteArray)(w:World):Calls Tryz.prog 236 #[.string s,.bool true] w λe w'=>e=.returned (.tuple #[.string s,.nilIface])/\w'=w:=by
 go_enter Tryz.func236,Tryz.ntmps236
 go_wp2;go_ret2
 exact⟨rfl,rfl⟩
theorem zf9(s:ByteArray)(a:Addr)(w:World)(he:jA w a):Calls Tryz.prog 236 #[.string s,.bool false] w λe w'=>e=.returned (.tuple #[.string ByteArray.empty,.iface 432 (.pointer (some a))])/\Below w.heap.size w w':=by
 unfold jA at he
 go_enter Tryz.func236,Tryz.ntmps236
 go_wp2
 go_quiet (fail)
 go_wp2;go_ret2
 exact⟨rfl,below_drewN (N2 _ _) _⟩
theorem zhW(v:Value)(w:World):(Extern.ReflectliteType.typeOf #[.iface 432 v]).run Tryz.prog w=.ok (.iface 379 (.agg #[.pointer (some ⟨4,432,none⟩)])) w:=by kernel_rfl
theorem zaE(w:World):((Extern.ReflectliteType.method λt=>do Rtype.noPackHeld "Comparable" t;(λa=>Value.bool a.comparable)<$>typeInfo t) #[.agg #[.pointer (some ⟨4,432,none⟩)]]).run Tryz.prog w=.ok (.bool true) w:=by kernel_rfl
theorem Jo(v:Value)(w:World):(Go.method 565 379 v "Comparable").run Tryz.prog w=.ok (318,v) w:=by kernel_rfl
theorem zke:(Tryz.prog.info? 432).map (·.comparable)=some true:=by kernel_rfl
theorem zkf:(Tryz.prog.info? 454).map (·.size)=some 1:=by kernel_rfl
theorem zjm(a:Addr)(w:World):
 Calls Tryz.prog 161 #[.iface 432 (.pointer (some a)),.iface 432 (.pointer (some a))] w λe w'=>e=.returned (.bool true)/\w'=w:=by
 obtain⟨i,hi,hcmp⟩:=Option.map_eq_some_iff.1 zke;obtain⟨j,hj,hjs⟩:=Option.map_eq_some_iff.1 zkf;have h8:= @run_callFunc_extern Tryz.prog 202 _ Extern.ReflectliteType.typeOf Tryz.func202 (by kernel_rfl) (by kernel_rfl) (by kernel_rfl) (by kernel_rfl);have h32:= @run_callFunc_extern Tryz.prog 318 _ (Extern.ReflectliteType.method λt=>do Rtype.noPackHeld "Comparable" t;pure (.bool (← typeInfo t).comparable)) Tryz.func318 (by kernel_rfl) (by kernel_rfl) (by kernel_rfl) (by kernel_rfl);have tT:=zhW;have cT:=zaE;have mR:=Jo;have heq:=run_eql_iface_ptr_same (P:=Tryz.prog) w a Tryz.underlying209 Tryz.underlying432 hi hcmp hj
 go_enter Tryz.func161,Tryz.ntmps161
 go_wp2;refine wp_loop_rounds 1 ?_;rw [rounds_succ];go_wp2;go_ret
 exact⟨rfl,rfl⟩
theorem zkg(b:Addr)(w:World):
 Calls Tryz.prog 161 #[.nilIface,.iface 432 (.pointer (some b))] w λe w'=>e=.returned (.bool false)/\w'=w:=by
 have hn:=run_eql_iface_nil_left (P:=Tryz.prog) w 432 (.pointer (some b)) Tryz.underlying209
 go_enter Tryz.func161,Tryz.ntmps161
 go_wp2;go_ret
 exact⟨rfl,rfl⟩
end Go.Proofs.YtobnhnidffipjaaGreatDoor
namespace Go.Proofs.YtobnhnidffipjaaGreatDoor
open Go Go.RowKit Go.Shelf Go.Extern.Stop Go.Stop Go.Extern
attribute [local go_sem] Oper.semAt_some
theorem Jp(l p:List UInt8)(w:World):Calls Tryz.prog 238 #[.string (bs l),.string (bs p)] w λe w'=>
 e=.returned (.tuple #[.string (bs (Lib.trimPrefix l p)),.bool (Lib.hasPrefix l p)])/\w'=w:=by
 have h:=Tryz.strings_CutPrefix (bs l) (bs p) w;rw [qy,qy] at h;exact h
theorem Jq(l p:List UInt8)(w:World)(hl:l.length<=9223372036854775807):Calls Tryz.prog 235 #[.string (bs l),.string (bs p)] w λe w'=>
 e=.returned (.tuple #[.string (bs (Lib.trimSuffix l p)),.bool (Lib.hasSuffix l p)])/\w'=w:=by
 have h:=Tryz.strings_CutSuffix (bs l) (bs p) w (by rw [zC];exact hl);rw [qy,qy] at h;exact h
theorem zkh(a b:List UInt8):Lib.join [a,b] []=a++b:=by simp [Lib.join,List.intercalate]
theorem zdA(bk c:Nat)(x y:List UInt8)(w:World)(hx:w.cell? ⟨bk,0,none⟩=some (.string (bs x)))(hy:w.cell? ⟨bk,1,none⟩=some (.string (bs y)))(hbk:bk<w.heap.size)(hc:2<=c)
 (hl:(x++y).length<=140737488355328):Calls Tryz.prog 113 #[.slice (some ⟨bk,0,none⟩) 2 c,.string ⟨#[]⟩] w λe w'=>e=.returned (.string (bs (x++y)))/\Below w.heap.size w w':=by
 have hj:=Tryz.strings_Join bk 0 c [bs x,bs y] ⟨#[]⟩ w (λj z hz=>by
  obtain rfl|rfl|h:j=0∨j=1∨2<=j:=by omega
  ·simp at hz;subst hz;exact hx
  ·simp at hz;subst hz;exact hy
  ·rw [List.getElem?_eq_none (by simpa using h)] at hz;cases hz) hbk (by simp) (by simpa using hc) (by
   simp only [List.map_cons,List.map_nil,qy]
   rw [zkh];omega)
 simp only [List.map_cons,List.map_nil,qy] at hj;rw [zkh] at hj;exact hj
theorem zaF(bk c:Nat)(x y:List UInt8)(w:World)(hx:w.cell? ⟨bk,0,none⟩=some (.string (bs x)))(hy:w.cell? ⟨bk,1,none⟩=some (.string (bs y)))(hbk:bk<w.heap.size)(hc:2<=c)
 (hl:(x++y).length<=1000):Calls Tryz.prog 232 #[.slice (some ⟨bk,0,none⟩) 2 c] w λe w'=>e=.returned (.tuple #[.string (bs (x++y)),.nilIface])/\Below w.heap.size w w':=by
 have hj:=zdA bk c x y w hx hy hbk hc (by omega);have hle:decide (((bs (x++y)).size:Int)<=1000)=true:=by rw [zC];simp only [decide_eq_true_eq];omega
 clear hx hy hl
 go_enter Tryz.func232,Tryz.ntmps232
 go_wp2_with (first|(go_at_call 113;refine hj.mono ?_;rintro e w' ⟨rfl,hb⟩)|(go_at_call 236;refine(zb9 _ _).mono ?_;rintro e w' ⟨rfl,rfl⟩))
 go_ret2
 exact⟨rfl,by assumption⟩
theorem zaG(a:Addr)(bk c:Nat)(x y:List UInt8)(w:World)(he:jA w a)(hx:w.cell? ⟨bk,0,none⟩=some (.string (bs x)))(hy:w.cell? ⟨bk,1,none⟩=some (.string (bs y)))(hbk:bk<w.heap.size)(hc:2<=c)
 (hl:1000<(x++y).length) (hl2:(x++y).length<=140737488355328):Calls Tryz.prog 232 #[.slice (some ⟨bk,0,none⟩) 2 c] w λe w'=>e=.returned (.tuple #[.string ByteArray.empty,.iface 432 (.pointer (some a))])/\Below w.heap.size w w':=by
 have hj:=zdA bk c x y w hx hy hbk hc hl2;have hle:decide (((bs (x++y)).size:Int)<=1000)=false:=by rw [zC];simp only [decide_eq_false_iff_not];omega
 have hlt:=he.lt;clear hx hy hl hl2
 go_enter Tryz.func232,Tryz.ntmps232
 go_wp2_with (first|(go_at_call 113;refine hj.mono ?_;rintro e w' ⟨rfl,hb⟩;have hE:=he.below hb hlt;have hs:=hb.size)|(go_at_call 236;refine(zf9 _ a _ hE).mono ?_;rintro e w' ⟨rfl,hb2⟩))
 go_ret2
 exact⟨rfl,Below.trans (by assumption) (Below.mono (by assumption) (by assumption))⟩
theorem zca(v:Int)(c:Nat)(d:List UInt8)(w:World)(hl:([98] ++d).length<=1000):
 Calls Tryz.prog 231 #[.agg #[.int .i64 v,.int .u32 c,.string (bs d)]] w λe w'=>e=.returned (.tuple #[.string (bs ([98] ++d)),.nilIface])/\Below w.heap.size w w':=by
 have hc0:((w.alloc (.cells #[.int .i64 v,.int .u32 ↑c,.string (bs d)] 101)).alloc (.cells #[.string ⟨#[98]⟩,.string (bs d)] 9)).cell? ⟨w.heap.size+1,0,none⟩=some (.string (bs [98])):=by simp;rfl
 have hc1:((w.alloc (.cells #[.int .i64 v,.int .u32 ↑c,.string (bs d)] 101)).alloc (.cells #[.string ⟨#[98]⟩,.string (bs d)] 9)).cell? ⟨w.heap.size+1,1,none⟩=some (.string (bs d)):=by simp
 go_enter Tryz.func231,Tryz.ntmps231
 go_wp2_with (go_at_call 232;(with_reducible refine(zaF (w.heap.size+1) _ [98] d _ hc0 hc1 (by simp) (by omega) hl).mono ?_);rintro e w' ⟨rfl,hb⟩)
 go_ret2
 exact⟨rfl,(((N2 _ _).alloc (N0 _) _).alloc (by simp) _).trans (Below.mono (by assumption) (by simp;omega))⟩
theorem zcb(a:Addr)(v:Int)(c:Nat)(d:List UInt8)(w:World)(he:jA w a)(hl:1000<([98] ++d).length)(hl2:d.length<=1000):
 Calls Tryz.prog 231 #[.agg #[.int .i64 v,.int .u32 c,.string (bs d)]] w λe w'=>e=.returned (.tuple #[.string ByteArray.empty,.iface 432 (.pointer (some a))])/\Below w.heap.size w w':=by
 have hc0:((w.alloc (.cells #[.int .i64 v,.int .u32 ↑c,.string (bs d)] 101)).alloc (.cells #[.string ⟨#[98]⟩,.string (bs d)] 9)).cell? ⟨w.heap.size+1,0,none⟩=some (.string (bs [98])):=by simp;rfl
 have hc1:((w.alloc (.cells #[.int .i64 v,.int .u32 ↑c,.string (bs d)] 101)).alloc (.cells #[.string ⟨#[98]⟩,.string (bs d)] 9)).cell? ⟨w.heap.size+1,1,none⟩=some (.string (bs d)):=by simp
 have hb0:Below w.heap.size w ((w.alloc (.cells #[.int .i64 v,.int .u32 ↑c,.string (bs d)] 101)).alloc (.cells #[.string ⟨#[98]⟩,.string (bs d)] 9)):=((N2 _ _).alloc (N0 _) _).alloc (by simp) _;have hE:=he.below hb0 he.lt;clear he
 go_enter Tryz.func231,Tryz.ntmps231
 go_wp2_with (go_at_call 232;(with_reducible refine(zaG a (w.heap.size+1) _ [98] d _ hE hc0 hc1 (by simp) (by omega) hl (by simp;omega)).mono ?_);rintro e w' ⟨rfl,hb⟩)
 go_ret2
 exact⟨rfl,hb0.trans (Below.mono (by assumption) (by simp;omega))⟩
theorem zcc(v:Int)(c:Nat)(d:List UInt8)(w:World)(hl:(d++le4 c).length<=1000):
 Calls Tryz.prog 233 #[.agg #[.int .i64 v,.int .u32 c,.string (bs d)]] w λe w'=>e=.returned (.tuple #[.string (bs (d++le4 c)),.nilIface])/\Below w.heap.size w w':=by
 go_enter Tryz.func233,Tryz.ntmps233
 go_wp2
 go_region_with (first
  |(go_at_call 109;(with_reducible refine(yF _ _).mono ?_);rintro e w1 ⟨rfl,hb⟩;have hz:=hb.size;obtain⟨hcA,hfA⟩:=zaB hb)
  |(go_at_call 232;(with_reducible refine(zaF _ _ d (le4 c) _ (by simp) (by simp) (by simp) (by omega) hl).mono ?_);rintro e w2 ⟨rfl,hb2⟩))
 all_goals go_wp2
 all_goals go_ret2
 all_goals exact⟨rfl,pbx⟩
theorem zcd(a:Addr)(v:Int)(c:Nat)(d:List UInt8)(w:World)(he:jA w a)(hl:1000<(d++le4 c).length)(hl2:d.length<=1000):
 Calls Tryz.prog 233 #[.agg #[.int .i64 v,.int .u32 c,.string (bs d)]] w λe w'=>e=.returned (.tuple #[.string ByteArray.empty,.iface 432 (.pointer (some a))])/\Below w.heap.size w w':=by
 have hl3:(d++le4 c).length<=140737488355328:=by simp [jb];omega
 have hE:∀W,Below w.heap.size w W->jA W a:=λW hW=>he.below hW he.lt
 clear he
 go_enter Tryz.func233,Tryz.ntmps233
 go_wp2
 go_region_with (first
  |(go_at_call 109;(with_reducible refine(yF _ _).mono ?_);rintro e w1 ⟨rfl,hb⟩;have hz:=hb.size;obtain⟨hcA,hfA⟩:=zaB hb)
  |(go_at_call 232;(with_reducible refine(zaG a _ _ d (le4 c) _ (hE _ (pbx)) (by simp) (by simp) (by simp) (by omega) hl hl3).mono ?_);rintro e w2 ⟨rfl,hb2⟩))
 all_goals go_wp2
 all_goals go_ret2
 all_goals exact⟨rfl,pbx⟩
theorem zew(v:Int)(c:Nat)(d:List UInt8)(w:World)(hd:d.length<=1000)(hs:Lib.hasSuffix d (le4 c)=true):
 Calls Tryz.prog 234 #[.agg #[.int .i64 v,.int .u32 c,.string (bs d)]] w λe w'=>e=.returned (.tuple #[.string (bs (Lib.trimSuffix d (le4 c))),.nilIface])/\Below w.heap.size w w':=by
 go_enter Tryz.func234,Tryz.ntmps234
 go_wp2
 go_region_with (first
  |(go_at_call 109;(with_reducible refine(yF _ _).mono ?_);rintro e w1 ⟨rfl,hb⟩;have hz:=hb.size;obtain⟨hcA,hfA⟩:=zaB hb)
  |(go_at_call 235;(with_reducible refine(Jq _ _ _ (by omega)).mono ?_);rintro e w2 ⟨rfl,rfl⟩))
 all_goals go_wp2_with (go_at_call 236;(with_reducible refine(zb9 _ _).mono ?_);rintro e w2 ⟨rfl,rfl⟩)
 all_goals go_ret2
 all_goals exact⟨rfl,pbx⟩
theorem zga(a:Addr)(v:Int)(c:Nat)(d:List UInt8)(w:World)(he:jA w a)(hd:d.length<=1000)(hs:Lib.hasSuffix d (le4 c)=false):
 Calls Tryz.prog 234 #[.agg #[.int .i64 v,.int .u32 c,.string (bs d)]] w λe w'=>e=.returned (.tuple #[.string ByteArray.empty,.iface 432 (.pointer (some a))])/\Below w.heap.size w w':=by
 have hE:∀W,Below w.heap.size w W->jA W a:=λW hW=>he.below hW he.lt
 clear he
 go_enter Tryz.func234,Tryz.ntmps234
 go_wp2
 go_region_with (first
  |(go_at_call 109;(with_reducible refine(yF _ _).mono ?_);rintro e w1 ⟨rfl,hb⟩;have hz:=hb.size;obtain⟨hcA,hfA⟩:=zaB hb)
  |(go_at_call 235;(with_reducible refine(Jq _ _ _ (by omega)).mono ?_);rintro e w2 ⟨rfl,rfl⟩))
 all_goals go_wp2_with (go_at_call 236;(with_reducible refine(zf9 _ a _ (hE _ (pbx))).mono ?_);rintro e w2 ⟨rfl,hb2⟩)
 all_goals go_ret2
 all_goals exact⟨rfl,pbx⟩
theorem zex(v:Int)(c:Nat)(d:List UInt8)(w:World)(hs:Lib.hasPrefix d [98]=true):
 Calls Tryz.prog 237 #[.agg #[.int .i64 v,.int .u32 c,.string (bs d)]] w λe w'=>e=.returned (.tuple #[.string (bs (Lib.trimPrefix d [98])),.nilIface])/\Below w.heap.size w w':=by
 have hp:=λW=>Jp d [98] W
 rw [hs] at hp;clear hs
 go_enter Tryz.func237,Tryz.ntmps237
 go_wp2_with (first
  |(go_at_call 238;refine(hp _).mono ?_;rintro e w2 ⟨rfl,rfl⟩)
  |(go_at_call 236;(with_reducible refine(zb9 _ _).mono ?_);rintro e w2 ⟨rfl,rfl⟩))
 go_ret2
 exact⟨rfl,pbx⟩
theorem zgb(a:Addr)(v:Int)(c:Nat)(d:List UInt8)(w:World)(he:jA w a)(hs:Lib.hasPrefix d [98]=false):
 Calls Tryz.prog 237 #[.agg #[.int .i64 v,.int .u32 c,.string (bs d)]] w λe w'=>e=.returned (.tuple #[.string ByteArray.empty,.iface 432 (.pointer (some a))])/\Below w.heap.size w w':=by
 have hp:=λW=>Jp d [98] W
 rw [hs] at hp;have hE:∀W,Below w.heap.size w W->jA W a:=λW hW=>he.below hW he.lt
 clear hs he
 go_enter Tryz.func237,Tryz.ntmps237
 go_wp2_with (first
  |(go_at_call 238;refine(hp _).mono ?_;rintro e w2 ⟨rfl,rfl⟩)
  |(go_at_call 236;(with_reducible refine(zf9 _ a _ (hE _ (pbx))).mono ?_);rintro e w2 ⟨rfl,hb2⟩))
 go_ret2
 exact⟨rfl,pbx⟩
end Go.Proofs.YtobnhnidffipjaaGreatDoor
namespace Go.Proofs.YtobnhnidffipjaaGreatDoor
open Go Go.RowKit Go.ChangeShapes Go.WideShapes Go.ChangeAt
theorem own:ownKnob Tryz.prog.godebug=none:=by kernel_rfl
theorem zgc:laidOutB Tryz.prog=true:=by kernel_rfl
theorem zk8:Tryz.prog.globalNamed "rostrum/registry.errTurn" =some 2:=by kernel_rfl
theorem zhX:(Tryz.prog.globals[2]?).map (·.type)=some 209:=by kernel_rfl
theorem zhY:Tryz.prog.cellsOf 454=1:=by kernel_rfl
theorem zhZ:Tryz.prog.cellsOf 9=1:=by kernel_rfl
theorem zk9: "*" ++ "errors.errorString" = "*errors.errorString" :=by decide
theorem zki(u:TypeId)(h:Tryz.prog.typeName? 3 u=some "*errors.errorString"):u=432:=
 typeName_ptr_named (nm:= "errors.errorString") (by rw [zk9];kernel_rfl) (by kernel_rfl) (by decide) u (by rw [zk9];exact h)
theorem zaH {P:Program}{x:String×DataW Unit}{r:List (String×DataW Unit)}{W:World}(h:laidMet P (x::r) W):laidMet P r W:=by
 obtain⟨ps,⟨g,t,cs,fuel,p,q,hg,ht,hv,hd,hq,e⟩,hn,hr⟩:=h;subst e;exact⟨q,hq,(List.nodup_append.1 hn).2.1,λb off hm=>hr b off (by simp [hm])⟩
abbrev zjn:List (String×DataW Unit):=[("rostrum/frame.errFrame",Rows.laid_rostrum_frame_errFrame),("rostrum/frame.errOld",Rows.laid_rostrum_frame_errOld),("rostrum/registry.errTurn",Rows.laid_rostrum_registry_errTurn)]
theorem Vq {W:World}(h:laidMetH Tryz.prog zjn W):∃a,jA W a:=by
 have h3:laidMet Tryz.prog [("rostrum/registry.errTurn",Rows.laid_rostrum_registry_errTurn)] W:=zaH (zaH (show laidMet Tryz.prog zjn W from h));obtain⟨a,s,hv,_⟩:=laid_sentinel (r:=[]) h3 zk8 zhX Tryz.underlying209 zki Tryz.underlying432 Tryz.underlying454 rfl rfl Tryz.underlying9 zhY zhZ;exact⟨a,by simpa [jA] using World.var?_cell zk8 hv 0⟩
abbrev zh0:ByteArray:=⟨#[110,111,32,102,114,97,109,101]⟩
abbrev zkj:ByteArray:=⟨#[110,111,32,118,101,114,115,105,111,110,32,111,102,32,116,104,101,32,119,105,114,101]⟩
abbrev zjo:ByteArray:=⟨#[97,32,115,116,97,116,101,32,99,97,110,110,111,116,32,98,101,32,116,117,114,110,101,100]⟩
noncomputable def low:Nat:=(World.holding Tryz.prog default ⟨#[],#[],[]⟩).heap.size
noncomputable def zjp(i:Nat):Obj->Obj
 | .cells _ t frozen=>.cells #[.iface 432 (.pointer (some ⟨low+i,0,none⟩))] t frozen
 |o=>o
noncomputable def qZ(os:Os):World:=
 let w0:=World.holding Tryz.prog os ⟨#[.cells #[.string zh0] 454,.cells #[.string zkj] 454,.cells #[.string zjo] 454],#[],[]⟩
 {w0 with heap:=((w0.heap.modify 0 (zjp 0)).modify 1 (zjp 1)).modify 2 (zjp 2)}
theorem zdB(os:Os)(args:Array Value):laidMet Tryz.prog zjn ((qZ os).forCall (λ_ _=>0) ⟨#[],args,[]⟩).memory:=
 laidMet_of_run' 8 (by kernel_rfl) (by kernel_rfl)
end Go.Proofs.YtobnhnidffipjaaGreatDoor
