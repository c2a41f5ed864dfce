/- PARTS OF THE PROOF. -/
import Derived.Stop.Asserts
import Derived.Deep.RegionWith
import Derived.OpenShut
import Derived.Deep.DeepHandedRow
import Derived.Deep.DeepWitnessRowRef
import Derived.Stop.LaidErr
import Derived.Lib.SmallJoins
import Derived.Maps.AppendAt
import Derived.Laws.OwnMore
import Derived.OwnWalk
import Derived.Test.YtofppfoioodblaaGreatDoorCards
import Derived.Test.YtofppfoioodblaaGreatDoorTie
import Derived.Test.YtofppfoioodblaaGreatDoorTC01
set_option maxRecDepth 8000
set_option maxHeartbeats 4000000
open Go.Proofs.Tryz
namespace Go.Proofs.YtofppfoioodblaaGreatDoor
section
open Go Go.RowKit Go.Shelf
attribute [local go_sem] Oper.semAt_some
def V1(v:Int)(n:Nat):Bool:=known v && decide (n<=1000)
theorem V2(v:Int)(c:Int)(d:ByteArray)(w:World):Calls prog 229 #[.agg #[.int .i64 v,.int .u32 c,.string d]] w λe w'=>e=.returned (.bool (V1 v d.size))/\Below w.heap.size w w':=by
 cases hv:known v
 ·go_enter func229,ntmps229
  go_wp2_with (go_at_call 163;refine(vE _ _).mono ?_;rintro e w' ⟨rfl,hb⟩;obtain⟨ac,aa⟩:=zbt hb;have hz:=hb.size)
  go_ret
  exact⟨by simp [V1,hv],((N2 _ _).alloc (N0 _) _).trans (Below.mono (by assumption) (by simp))⟩
 go_enter func229,ntmps229
 go_wp2_with (go_at_call 163;refine(vE _ _).mono ?_;rintro e w' ⟨rfl,hb⟩;obtain⟨ac,aa⟩:=zbt hb;have hz:=hb.size)
 go_ret
 refine⟨?_,((N2 _ _).alloc (N0 _) _).trans (Below.mono (by assumption) (by simp))⟩;simp [V1,hv]
 try omega
def Zy(v:Int):Int×Int:=if known v then(if v=1 then(1,0)else(2,0))else(0,130)
theorem zbw(v:Int)(w:World):Calls prog 186 #[.int .i64 v] w λe w'=>e=.returned (.tuple #[.int .i64 (Zy v).1,.int .i64 (Zy v).2])/\Below w.heap.size w w':=by
 cases hv:known v
 ·go_enter func186,ntmps186
  go_wp2_with (go_at_call 163;refine(vE _ _).mono ?_;rintro e w' ⟨rfl,hb⟩)
  go_ret2
  exact⟨by simp [Zy,hv],by assumption⟩
 by_cases h1:v=1
 ·have aa:(v==1)=true:=by simp [h1]
  go_enter func186,ntmps186
  go_wp2_with (go_at_call 163;refine(vE _ _).mono ?_;rintro e w' ⟨rfl,hb⟩)
  go_ret2
  exact⟨by subst h1;simp [Zy,hv],by assumption⟩
 have aa:(v==1)=false:=by simp [h1]
 go_enter func186,ntmps186
 go_wp2_with (go_at_call 163;refine(vE _ _).mono ?_;rintro e w' ⟨rfl,hb⟩)
 go_ret2
 exact⟨by simp [Zy,hv,h1],by assumption⟩
end
section
open Go Go.RowKit Go.Shelf Go.Extern.Stop Go.Stop Go.Extern
attribute [local go_sem] Oper.semAt_some
def jK(w:World)(a:Addr):Prop:=w.cell? ⟨2,0,none⟩=some (.iface 483 (.pointer (some a)))
theorem jK.below {B:Nat}{w w':World}{a:Addr}(h:jK w a)(hb:Below B w w')(hB:2<B):jK w' a:=(hb.cell hB).trans h
theorem jK.lt {w:World}{a:Addr}(h:jK w a):2<w.heap.size:=by
 unfold jK World.cell? at h
 rcases Nat.lt_or_ge 2 w.heap.size with h'|h'
 ·exact h'
 simp [Array.getElem?_eq_none h'] at h
theorem zdg(s:ByteArray)(w:World):Calls prog 288 #[.string s,.bool true] w λe w'=>e=.returned (.tuple #[.string s,.nilIface])/\w'=w:=by
 go_enter func288,ntmps288
 go_wp2;go_ret2
 exact⟨rfl,rfl⟩
theorem zhx(s:ByteArray)(a:Addr)(w:World)(he:jK w a):Calls prog 288 #[.string s,.bool false] w λe w'=>e=.returned (.tuple #[.string ByteArray.empty,.iface 483 (.pointer (some a))])/\Below w.heap.size w w':=by
 unfold jK at he
 go_enter func288,ntmps288
 go_wp2
 go_quiet (fail)
 go_wp2;go_ret2
 exact⟨rfl,below_drewN (N2 _ _) _⟩
theorem zjD(v:Value)(w:World):(Extern.ReflectliteType.typeOf #[.iface 483 v]).run prog w=.ok (.iface 443 (.agg #[.pointer (some ⟨11,483,none⟩)])) w:=by kernel_rfl
theorem zbx(w:World):((Extern.ReflectliteType.method λt=>do Rtype.noPackHeld "Comparable" t;(λa=>Value.bool a.comparable)<$>typeInfo t) #[.agg #[.pointer (some ⟨11,483,none⟩)]]).run prog w=.ok (.bool true) w:=by kernel_rfl
theorem J8(v:Value)(w:World):(Go.method 640 443 v "Comparable").run prog w=.ok (391,v) w:=by kernel_rfl
theorem zlZ:(prog.info? 483).map (·.comparable)=some true:=by kernel_rfl
theorem zl0:(prog.info? 485).map (·.size)=some 1:=by kernel_rfl
theorem zk6(a:Addr)(w:World):
 Calls prog 197 #[.iface 483 (.pointer (some a)),.iface 483 (.pointer (some a))] w λe w'=>e=.returned (.bool true)/\w'=w:=by
 obtain⟨i,hi,aa⟩:=Option.map_eq_some_iff.1 zlZ;obtain⟨j,hj,ad⟩:=Option.map_eq_some_iff.1 zl0;have h8:= @run_callFunc_extern prog 246 _ Extern.ReflectliteType.typeOf func246 (by kernel_rfl) (by kernel_rfl) (by kernel_rfl) (by kernel_rfl);have ae:= @run_callFunc_extern prog 391 _ (Extern.ReflectliteType.method λt=>do Rtype.noPackHeld "Comparable" t;pure (.bool (← typeInfo t).comparable)) func391 (by kernel_rfl) (by kernel_rfl) (by kernel_rfl) (by kernel_rfl);have tT:=zjD;have cT:=zbx;have mR:=J8;have ac:=run_eql_iface_ptr_same (P:=prog) w a Tryz.underlying253 Tryz.underlying483 hi aa hj
 go_enter func197,ntmps197
 go_wp2;refine wp_loop_rounds 1 ?_;rw [rounds_succ];go_wp2;go_ret
 exact⟨rfl,rfl⟩
theorem zl1(b:Addr)(w:World):
 Calls prog 197 #[.nilIface,.iface 483 (.pointer (some b))] w λe w'=>e=.returned (.bool false)/\w'=w:=by
 have hn:=run_eql_iface_nil_left (P:=prog) w 483 (.pointer (some b)) Tryz.underlying253
 go_enter func197,ntmps197
 go_wp2;go_ret
 exact⟨rfl,rfl⟩
end
section
open Go Go.RowKit Go.Shelf Go.Extern.Stop Go.Stop Go.Extern
attribute [local go_sem] Oper.semAt_some
theorem J9(l p:List UInt8)(w:World):Calls prog 290 #[.string (bs l),.string (bs p)] w λe w'=>
 e=.returned (.tuple #[.string (bs (Lib.trimPrefix l p)),.bool (Lib.hasPrefix l p)])/\w'=w:=by
 have h:=Tryz.strings_CutPrefix (bs l) (bs p) w;rw [qZ,qZ] at h;exact h
theorem Ya(l p:List UInt8)(w:World)(hl:l.length<=9223372036854775807):Calls prog 287 #[.string (bs l),.string (bs p)] w λe w'=>
 e=.returned (.tuple #[.string (bs (Lib.trimSuffix l p)),.bool (Lib.hasSuffix l p)])/\w'=w:=by
 have h:=Tryz.strings_CutSuffix (bs l) (bs p) w (by rw [zL];exact hl);rw [qZ,qZ] at h;exact h
theorem zl2(a b:List UInt8):Lib.join [a,b] []=a++b:=by simp [Lib.join,List.intercalate]
theorem zeG(bk c:Nat)(x y:List UInt8)(w:World)(hx:w.cell? ⟨bk,0,none⟩=some (.string (bs x)))(hy:w.cell? ⟨bk,1,none⟩=some (.string (bs y)))(hbk:bk<w.heap.size)(hc:2<=c)
 (hl:(x++y).length<=140737488355328):Calls prog 138 #[.slice (some ⟨bk,0,none⟩) 2 c,.string ⟨#[]⟩] w λe w'=>e=.returned (.string (bs (x++y)))/\Below w.heap.size w w':=by
 have hj:=Tryz.strings_Join bk 0 c [bs x,bs y] ⟨#[]⟩ w (λj z hz=>by
  obtain rfl|rfl|h:j=0∨j=1∨2<=j:=by omega
  ·simp at hz;subst hz;exact hx
  ·simp at hz;subst hz;exact hy
  rw [List.getElem?_eq_none (by simpa using h)] at hz;cases hz) hbk (by simp) (by simpa using hc) (by
  simp only [List.map_cons,List.map_nil,qZ]
  rw [zl2];omega)
 simp only [List.map_cons,List.map_nil,qZ] at hj;rw [zl2] at hj;exact hj
theorem zby(bk c:Nat)(x y:List UInt8)(w:World)(hx:w.cell? ⟨bk,0,none⟩=some (.string (bs x)))(hy:w.cell? ⟨bk,1,none⟩=some (.string (bs y)))(hbk:bk<w.heap.size)(hc:2<=c)
 (hl:(x++y).length<=1000):Calls prog 284 #[.slice (some ⟨bk,0,none⟩) 2 c] w λe w'=>e=.returned (.tuple #[.string (bs (x++y)),.nilIface])/\Below w.heap.size w w':=by
 have hj:=zeG bk c x y w hx hy hbk hc (by omega);have aa:decide (((bs (x++y)).size:Int)<=1000)=true:=by rw [zL];simp only [decide_eq_true_eq];omega
 clear hx hy hl
 go_enter func284,ntmps284
 go_wp2_with (first|(go_at_call 138;refine hj.mono ?_;rintro e w' ⟨rfl,hb⟩)|(go_at_call 288;refine(zdg _ _).mono ?_;rintro e w' ⟨rfl,rfl⟩))
 go_ret2
 exact⟨rfl,by assumption⟩
theorem zbz(a:Addr)(bk c:Nat)(x y:List UInt8)(w:World)(he:jK w a)(hx:w.cell? ⟨bk,0,none⟩=some (.string (bs x)))(hy:w.cell? ⟨bk,1,none⟩=some (.string (bs y)))(hbk:bk<w.heap.size)(hc:2<=c)
 (hl:1000<(x++y).length) (hl2:(x++y).length<=140737488355328):Calls prog 284 #[.slice (some ⟨bk,0,none⟩) 2 c] w λe w'=>e=.returned (.tuple #[.string ByteArray.empty,.iface 483 (.pointer (some a))])/\Below w.heap.size w w':=by
 have hj:=zeG bk c x y w hx hy hbk hc hl2;have ac:decide (((bs (x++y)).size:Int)<=1000)=false:=by rw [zL];simp only [decide_eq_false_iff_not];omega
 have aa:=he.lt;clear hx hy hl hl2
 go_enter func284,ntmps284
 go_wp2_with (first|(go_at_call 138;refine hj.mono ?_;rintro e w' ⟨rfl,hb⟩;have hE:=he.below hb aa;have hs:=hb.size)|(go_at_call 288;refine(zhx _ a _ hE).mono ?_;rintro e w' ⟨rfl,ad⟩))
 go_ret2
 exact⟨rfl,Below.trans (by assumption) (Below.mono (by assumption) (by assumption))⟩
theorem zdh(v:Int)(c:Nat)(d:List UInt8)(w:World)(hl:([98] ++d).length<=1000):
 Calls prog 283 #[.agg #[.int .i64 v,.int .u32 c,.string (bs d)]] w λe w'=>e=.returned (.tuple #[.string (bs ([98] ++d)),.nilIface])/\Below w.heap.size w w':=by
 have aa:((w.alloc (.cells #[.int .i64 v,.int .u32 ↑c,.string (bs d)] 115)).alloc (.cells #[.string ⟨#[98]⟩,.string (bs d)] 9)).cell? ⟨w.heap.size+1,0,none⟩=some (.string (bs [98])):=by simp;rfl
 have ac:((w.alloc (.cells #[.int .i64 v,.int .u32 ↑c,.string (bs d)] 115)).alloc (.cells #[.string ⟨#[98]⟩,.string (bs d)] 9)).cell? ⟨w.heap.size+1,1,none⟩=some (.string (bs d)):=by simp
 go_enter func283,ntmps283
 go_wp2_with (go_at_call 284;(with_reducible refine(zby (w.heap.size+1) _ [98] d _ aa ac (by simp) (by omega) hl).mono ?_);rintro e w' ⟨rfl,hb⟩)
 go_ret2
 exact⟨rfl,(((N2 _ _).alloc (N0 _) _).alloc (by simp) _).trans (Below.mono (by assumption) (by simp;omega))⟩
theorem zdi(a:Addr)(v:Int)(c:Nat)(d:List UInt8)(w:World)(he:jK w a)(hl:1000<([98] ++d).length)(hl2:d.length<=1000):
 Calls prog 283 #[.agg #[.int .i64 v,.int .u32 c,.string (bs d)]] w λe w'=>e=.returned (.tuple #[.string ByteArray.empty,.iface 483 (.pointer (some a))])/\Below w.heap.size w w':=by
 have ac:((w.alloc (.cells #[.int .i64 v,.int .u32 ↑c,.string (bs d)] 115)).alloc (.cells #[.string ⟨#[98]⟩,.string (bs d)] 9)).cell? ⟨w.heap.size+1,0,none⟩=some (.string (bs [98])):=by simp;rfl
 have ad:((w.alloc (.cells #[.int .i64 v,.int .u32 ↑c,.string (bs d)] 115)).alloc (.cells #[.string ⟨#[98]⟩,.string (bs d)] 9)).cell? ⟨w.heap.size+1,1,none⟩=some (.string (bs d)):=by simp
 have aa:Below w.heap.size w ((w.alloc (.cells #[.int .i64 v,.int .u32 ↑c,.string (bs d)] 115)).alloc (.cells #[.string ⟨#[98]⟩,.string (bs d)] 9)):=((N2 _ _).alloc (N0 _) _).alloc (by simp) _;have hE:=he.below aa he.lt;clear he
 go_enter func283,ntmps283
 go_wp2_with (go_at_call 284;(with_reducible refine(zbz a (w.heap.size+1) _ [98] d _ hE ac ad (by simp) (by omega) hl (by simp;omega)).mono ?_);rintro e w' ⟨rfl,hb⟩)
 go_ret2
 exact⟨rfl,aa.trans (Below.mono (by assumption) (by simp;omega))⟩
theorem zdj(v:Int)(c:Nat)(d:List UInt8)(w:World)(hl:(d++le4 c).length<=1000):
 Calls prog 285 #[.agg #[.int .i64 v,.int .u32 c,.string (bs d)]] w λe w'=>e=.returned (.tuple #[.string (bs (d++le4 c)),.nilIface])/\Below w.heap.size w w':=by
 go_enter func285,ntmps285
 go_wp2
 go_region_with (first
  |(go_at_call 134;(with_reducible refine(y9 _ _).mono ?_);rintro e w1 ⟨rfl,hb⟩;have hz:=hb.size;obtain⟨aa,ac⟩:=zbt hb)
  |(go_at_call 284;(with_reducible refine(zby _ _ d (le4 c) _ (by simp) (by simp) (by simp) (by omega) hl).mono ?_);rintro e w2 ⟨rfl,ad⟩))
 all_goals go_wp2
 all_goals go_ret2
 all_goals exact⟨rfl,pbx⟩
theorem zdk(a:Addr)(v:Int)(c:Nat)(d:List UInt8)(w:World)(he:jK w a)(hl:1000<(d++le4 c).length)(hl2:d.length<=1000):
 Calls prog 285 #[.agg #[.int .i64 v,.int .u32 c,.string (bs d)]] w λe w'=>e=.returned (.tuple #[.string ByteArray.empty,.iface 483 (.pointer (some a))])/\Below w.heap.size w w':=by
 have aa:(d++le4 c).length<=140737488355328:=by simp [jd];omega
 have hE:∀W,Below w.heap.size w W->jK W a:=λW hW=>he.below hW he.lt
 clear he
 go_enter func285,ntmps285
 go_wp2
 go_region_with (first
  |(go_at_call 134;(with_reducible refine(y9 _ _).mono ?_);rintro e w1 ⟨rfl,hb⟩;have hz:=hb.size;obtain⟨ac,ad⟩:=zbt hb)
  |(go_at_call 284;(with_reducible refine(zbz a _ _ d (le4 c) _ (hE _ (pbx)) (by simp) (by simp) (by simp) (by omega) hl aa).mono ?_);rintro e w2 ⟨rfl,ae⟩))
 all_goals go_wp2
 all_goals go_ret2
 all_goals exact⟨rfl,pbx⟩
theorem zfF(v:Int)(c:Nat)(d:List UInt8)(w:World)(hd:d.length<=1000)(hs:Lib.hasSuffix d (le4 c)=true):
 Calls prog 286 #[.agg #[.int .i64 v,.int .u32 c,.string (bs d)]] w λe w'=>e=.returned (.tuple #[.string (bs (Lib.trimSuffix d (le4 c))),.nilIface])/\Below w.heap.size w w':=by
 go_enter func286,ntmps286
 go_wp2
 go_region_with (first
  |(go_at_call 134;(with_reducible refine(y9 _ _).mono ?_);rintro e w1 ⟨rfl,hb⟩;have hz:=hb.size;obtain⟨ac,aa⟩:=zbt hb)
  |(go_at_call 287;(with_reducible refine(Ya _ _ _ (by omega)).mono ?_);rintro e w2 ⟨rfl,rfl⟩))
 all_goals go_wp2_with (go_at_call 288;(with_reducible refine(zdg _ _).mono ?_);rintro e w2 ⟨rfl,rfl⟩)
 all_goals go_ret2
 all_goals exact⟨rfl,pbx⟩
theorem zhy(a:Addr)(v:Int)(c:Nat)(d:List UInt8)(w:World)(he:jK w a)(hd:d.length<=1000)(hs:Lib.hasSuffix d (le4 c)=false):
 Calls prog 286 #[.agg #[.int .i64 v,.int .u32 c,.string (bs d)]] w λe w'=>e=.returned (.tuple #[.string ByteArray.empty,.iface 483 (.pointer (some a))])/\Below w.heap.size w w':=by
 have hE:∀W,Below w.heap.size w W->jK W a:=λW hW=>he.below hW he.lt
 clear he
 go_enter func286,ntmps286
 go_wp2
 go_region_with (first
  |(go_at_call 134;(with_reducible refine(y9 _ _).mono ?_);rintro e w1 ⟨rfl,hb⟩;have hz:=hb.size;obtain⟨aa,ac⟩:=zbt hb)
  |(go_at_call 287;(with_reducible refine(Ya _ _ _ (by omega)).mono ?_);rintro e w2 ⟨rfl,rfl⟩))
 all_goals go_wp2_with (go_at_call 288;(with_reducible refine(zhx _ a _ (hE _ (pbx))).mono ?_);rintro e w2 ⟨rfl,ad⟩)
 all_goals go_ret2
 all_goals exact⟨rfl,pbx⟩
theorem zfG(v:Int)(c:Nat)(d:List UInt8)(w:World)(hs:Lib.hasPrefix d [98]=true):
 Calls prog 289 #[.agg #[.int .i64 v,.int .u32 c,.string (bs d)]] w λe w'=>e=.returned (.tuple #[.string (bs (Lib.trimPrefix d [98])),.nilIface])/\Below w.heap.size w w':=by
 have hp:=λW=>J9 d [98] W
 rw [hs] at hp;clear hs
 go_enter func289,ntmps289
 go_wp2_with (first
  |(go_at_call 290;refine(hp _).mono ?_;rintro e w2 ⟨rfl,rfl⟩)
  |(go_at_call 288;(with_reducible refine(zdg _ _).mono ?_);rintro e w2 ⟨rfl,rfl⟩))
 go_ret2
 exact⟨rfl,pbx⟩
theorem zhz(a:Addr)(v:Int)(c:Nat)(d:List UInt8)(w:World)(he:jK w a)(hs:Lib.hasPrefix d [98]=false):
 Calls prog 289 #[.agg #[.int .i64 v,.int .u32 c,.string (bs d)]] w λe w'=>e=.returned (.tuple #[.string ByteArray.empty,.iface 483 (.pointer (some a))])/\Below w.heap.size w w':=by
 have hp:=λW=>J9 d [98] W
 rw [hs] at hp;have hE:∀W,Below w.heap.size w W->jK W a:=λW hW=>he.below hW he.lt
 clear hs he
 go_enter func289,ntmps289
 go_wp2_with (first
  |(go_at_call 290;refine(hp _).mono ?_;rintro e w2 ⟨rfl,rfl⟩)
  |(go_at_call 288;(with_reducible refine(zhx _ a _ (hE _ (pbx))).mono ?_);rintro e w2 ⟨rfl,aa⟩))
 go_ret2
 exact⟨rfl,pbx⟩
end
section
open Go Go.RowKit Go.ChangeShapes Go.WideShapes Go.ChangeAt
theorem own:ownKnob prog.godebug=none:=by kernel_rfl
theorem zk7:laidOutB prog=true:=by kernel_rfl
theorem zmT:prog.globalNamed "rostrum/registry.errTurn" =some 2:=by kernel_rfl
theorem zjE:(prog.globals[2]?).map (·.type)=some 253:=by kernel_rfl
theorem zjF:prog.cellsOf 485=1:=by kernel_rfl
theorem zjG:prog.cellsOf 9=1:=by kernel_rfl
theorem zmU: "*" ++ "errors.errorString" = "*errors.errorString" :=by decide
theorem zl3(u:TypeId)(h:prog.typeName? 3 u=some "*errors.errorString"):u=483:=
 typeName_ptr_named (nm:= "errors.errorString") (by rw [zmU];kernel_rfl) (by kernel_rfl) (by decide) u (by rw [zmU];exact h)
theorem zbA {P:Program}{x:String×DataW Unit}{r:List (String×DataW Unit)}{W:World}(h:laidMet P (x::r) W):laidMet P r W:=by
 obtain⟨ps,⟨g,t,cs,aa,p,q,hg,ht,hv,hd,hq,e⟩,hn,hr⟩:=h;subst e;exact⟨q,hq,(List.nodup_append.1 hn).2.1,λb off hm=>hr b off (by simp [hm])⟩
abbrev zk8:List (String×DataW Unit):=[("rostrum/frame.errFrame",Rows.laid_rostrum_frame_errFrame),("rostrum/frame.errOld",Rows.laid_rostrum_frame_errOld),("rostrum/registry.errTurn",Rows.laid_rostrum_registry_errTurn)]
theorem zdl {W:World}(h:laidMetH prog zk8 W):∃a,jK W a:=by
 have h3:laidMet prog [("rostrum/registry.errTurn",Rows.laid_rostrum_registry_errTurn)] W:=zbA (zbA (show laidMet prog zk8 W from h));obtain⟨a,s,hv,_⟩:=laid_sentinel (r:=[]) h3 zmT zjE Tryz.underlying253 zl3 Tryz.underlying483 Tryz.underlying485 rfl rfl Tryz.underlying9 zjF zjG;exact⟨a,by simpa [jK] using World.var?_cell zmT hv 0⟩
abbrev zjH:ByteArray:=⟨#[110,111,32,102,114,97,109,101]⟩
abbrev zl4:ByteArray:=⟨#[110,111,32,118,101,114,115,105,111,110,32,111,102,32,116,104,101,32,119,105,114,101]⟩
abbrev zk9:ByteArray:=⟨#[97,32,115,116,97,116,101,32,99,97,110,110,111,116,32,98,101,32,116,117,114,110,101,100]⟩
noncomputable def low:Nat:=(World.holding prog default ⟨#[],#[],[]⟩).heap.size
noncomputable def zla(i:Nat):Obj->Obj
 | .cells _ t frozen=>.cells #[.iface 483 (.pointer (some ⟨low+i,0,none⟩))] t frozen
 |o=>o
noncomputable def V4(os:Os):World:=
 let w0:=World.holding prog os ⟨#[.cells #[.string zjH] 485,.cells #[.string zl4] 485,.cells #[.string zk9] 485],#[],[]⟩
 {w0 with heap:=((w0.heap.modify 0 (zla 0)).modify 1 (zla 1)).modify 2 (zla 2)}
theorem zjI(os:Os)(args:Array Value):laidMet prog zk8 ((V4 os).forCall (λ_ _=>0) ⟨#[],args,[]⟩).memory:=
 laidMet_of_run' 8 (by kernel_rfl) (by kernel_rfl)
end
section
open Go Go.RowKit
structure qt(P:Program)(kt:TypeId){K:Type} [DecidableEq K](enc:K->Value):Prop where
 eq:∀(k k':K)(w:World),(Op.equal kt (enc k) (enc k')).run P w=.ok (decide (k=k')) w
 chk:∀(b:Bool)(k:K)(w:World),(Instr.checkKey b 10000 kt (enc k)).run P w=.ok () w
 bits:∀k:K,Instr.sameBits 10000 (enc k) (enc k)=true
 now:∃u,P.underlying kt=some u/\∀k k':K,Instr.sameNow u (enc k) (enc k')=none∨Instr.sameNow u (enc k) (enc k')=some (decide (k=k'))
section
variable {P:Program}{kt:TypeId}{K:Type} [DecidableEq K] {enc:K->Value}
def yj {V:Type}(k:K):List (K×V)->Nat->Option (Nat×V)
 | [],_=>none
 |(k',v)::l,i=>if k=k' then some (i,v)else yj k l (i+1)
def zE {V:Type}(k:K):List (K×V)->Option V
 | []=>none
 |(k',v)::l=>if k=k' then some v else zE k l
theorem Zz {V:Type}(k:K):∀(l:List (K×V)) (i:Nat),(yj k l i).map (·.2)=zE k l
 | [],_=>rfl
 |(k',v)::l,i=>by
  unfold yj zE
  split
  ·rfl
  exact Zz k l (i+1)
theorem xB {V U:Type}(f:V->U)(k:K):∀l:List (K×V),zE k (l.map λp=>(p.1,f p.2))=(zE k l).map f
 | []=>rfl
 |(k',v)::l=>by
  have ih:=xB f k l;rw [List.map_cons]
  by_cases h:k=k'
  ·simp [zE,h]
  simp [zE,h,ih]
def vA(enc:K->Value)(es:List MapEntry)(l:List (K×Value)):Prop:=es.map (λe=>(e.key,e.val))=l.map (λp=>(enc p.1,p.2))
omit [DecidableEq K] in
theorem vA.cons {e:MapEntry}{es:List MapEntry}{p:K×Value}{l:List (K×Value)} :vA enc (e::es) (p::l)↔(e.key=enc p.1/\e.val=p.2)/\vA enc es l:=by
 simp [vA]
theorem Yb(L:qt P kt enc){u:TypeDesc}(hu:P.underlying kt=some u)(k:K):∀(es:List MapEntry)(l:List (K×Value)) (i:Nat),vA enc es l->
 Instr.findNow u (enc k) es i=none∨Instr.findNow u (enc k) es i=some (yj k l i)
 | [],[],i,_=>.inr rfl
 | [],p::l,i,h=>by simp [vA] at h
 |e::es,[],i,h=>by simp [vA] at h
 |e::es,(k',v)::l,i,h=>by
  obtain⟨⟨hk,hv⟩,h'⟩:=vA.cons.1 h;obtain⟨u',hu',hs⟩:=L.now;obtain rfl:u'=u:=Option.some.inj (hu'.symm.trans hu);have ih:=Yb L hu k es l (i+1) h';simp only [Instr.findNow,hk,yj]
  rcases hs k k' with h1|h1
  ·rw [h1];exact .inl rfl
  rw [h1]
  by_cases hkk:k=k'
  ·rw [if_pos hkk];simp [hkk];exact hv
  rw [if_neg hkk];simp only [hkk,decide_false];exact ih
theorem Zs(L:qt P kt enc)(k:K)(w:World):∀(es:List MapEntry)(l:List (K×Value)) (i:Nat),vA enc es l->
 (Instr.findAsking kt (enc k) es i).run P w=.ok (yj k l i) w
 | [],[],i,_=>by simp [Instr.findAsking,yj,Sem.run_pure]
 | [],p::l,i,h=>by simp [vA] at h
 |e::es,[],i,h=>by simp [vA] at h
 |e::es,(k',v)::l,i,h=>by
  obtain⟨⟨hk,hv⟩,h'⟩:=vA.cons.1 h;have ih:=Zs L k w es l (i+1) h';simp only [Instr.findAsking,hk,yj,Sem.run_bind,L.eq,Result.andThen]
  by_cases hkk:k=k'
  ·simp only at hv;simp [hkk,Sem.run_pure,hv]
  simp [hkk,ih]
theorem yH(L:qt P kt enc)(k:K)(w:World)(es:List MapEntry)(l:List (K×Value))(h:vA enc es l):
 (Instr.findKey kt (enc k) es).run P w=.ok (yj k l 0) w:=by
 obtain⟨u,hu,_⟩:=L.now;unfold Instr.findKey;simp only [Sem.run_bind,run_underlying hu,Result.andThen]
 rcases Yb L hu k es l 0 h with h1|h1
 ·rw [h1];exact Zs L k w es l 0 h
 rw [h1];simp [Sem.run_pure]
theorem yf {w:World}{b:Nat}{es:Array MapEntry}{c:Nat}(h:w.heap[b]?=some (.map es c)):(getObj b).run P w=.ok (.map es c) w:=by simp [getObj,Sem.run,h]
theorem vF {w:World}{b:Nat}{es:Array MapEntry}{c:Nat}(o:Obj)(h:w.heap[b]?=some (.map es c)):(setObj b o).run P w=.ok () (w.putObj b o):=by simp [setObj,Sem.run,h,World.putObj]
def z6(w:World)(b:Nat)(enc:K->Value)(l:List (K×Value)):Prop:=
 ∃es c,w.heap[b]?=some (.map es c)/\vA enc es.toList l/\es.toList.Pairwise (λx y=>x.born<y.born)/\(∀e∈es.toList,e.born<c)
omit [DecidableEq K] in
theorem z6.lt {w:World}{b:Nat}{l:List (K×Value)}(h:z6 w b enc l):b<w.heap.size:=by
 obtain⟨es,c,hb,_⟩:=h;exact(N5.1 hb).1
omit [DecidableEq K] in
theorem z6.kept {w w':World}{b:Nat}{l:List (K×Value)}(h:z6 w b enc l)(hb:w'.heap[b]?=w.heap[b]?):z6 w' b enc l:=by
 obtain⟨es,c,h1,h2⟩:=h;exact⟨es,c,hb.trans h1,h2⟩
omit [DecidableEq K] in
theorem z6.made(w:World)(enc:K->Value):z6 (w.alloc (.map #[] 0)) w.heap.size enc []:=
 ⟨#[],0,World.alloc_heap_new w _,rfl,by simp,by simp⟩
omit [DecidableEq K] in
theorem z6.size {w:World}{b:Nat}{l:List (K×Value)}(h:z6 w b enc l):∃es c,w.heap[b]?=some (.map es c)/\es.size=l.length:=by
 obtain⟨es,c,h1,h2,_⟩:=h;have:=congrArg List.length h2;simp at this
 exact⟨es,c,h1,this⟩
theorem z6.lookup {w:World}{b:Nat}{l:List (K×Value)}(h:z6 w b enc l)(L:qt P kt enc){mt et:TypeId}(hm:P.underlying mt=some (.map kt et)){z:Value}(hz:(zeroValue et).run P w=.ok z w)(k:K):
 (Instr.lookup mt (.map (some b)) (enc k) false).run P w=.ok ((zE k l).getD z) w:=by
 obtain⟨es,c,hb,hB,_⟩:=h;unfold Instr.lookup;simp only [Sem.run_bind,run_underlying hm,Result.andThen,yf hb,Sem.run_pure,L.chk,yH L k w _ _ hB];have hl:=Zz k l 0
 cases hi:yj k l 0 with
 |none=>rw [hi] at hl;simp only [Option.map_none] at hl;rw [← hl];simp [hz]
 |some p=>rw [hi] at hl;simp only [Option.map_some] at hl;rw [← hl];simp [Sem.run_pure]
theorem z6.lookup_ok {w:World}{b:Nat}{l:List (K×Value)}(h:z6 w b enc l)(L:qt P kt enc){mt et:TypeId}(hm:P.underlying mt=some (.map kt et)){z:Value}(hz:(zeroValue et).run P w=.ok z w)(k:K):
 (Instr.lookup mt (.map (some b)) (enc k) true).run P w=.ok (.tuple #[(zE k l).getD z,.bool (zE k l).isSome]) w:=by
 obtain⟨es,c,hb,hB,_⟩:=h;unfold Instr.lookup;simp only [Sem.run_bind,run_underlying hm,Result.andThen,yf hb,Sem.run_pure,L.chk,yH L k w _ _ hB];have hl:=Zz k l 0
 cases hi:yj k l 0 with
 |none=>rw [hi] at hl;simp only [Option.map_none] at hl;rw [← hl];simp [hz,Result.andThen]
 |some p=>rw [hi] at hl;simp only [Option.map_some] at hl;rw [← hl];simp [Sem.run_pure]
def put {V:Type}(k:K)(v:V):List (K×V)->List (K×V)
 | []=>[(k,v)]
 |(k',v')::l=>if k=k' then(k,v)::l else(k',v')::put k v l
theorem zeH {k:K}{v:Value} :∀ {l:List (K×Value)} {i:Nat},yj k l i=none->put k v l=l++ [(k,v)]
 | [],_,_=>rfl
 |(k',v')::l,i,h=>by
  unfold yj at h
  split at h
  ·cases h
  rename_i hk;unfold put;rw [if_neg hk,zeH h];rfl
theorem Jq {k:K}{v:Value} :∀ {l:List (K×Value)} {es:List MapEntry} {i j:Nat} {v0:Value},yj k l i=some (j,v0)->vA enc es l->
 i<=j/\((es[j - i]?).map (·.key))=some (enc k)/\vA enc (es.modify (j - i) λe=> {e with key:=enc k,val:=v}) (put k v l)
 | [],es,i,j,v0,h,_=>by cases h
 |(k',v')::l,[],i,j,v0,h,hB=>by simp [vA] at hB
 |(k',v')::l,e::es,i,j,v0,h,hB=>by
  obtain⟨⟨h1,h2⟩,h3⟩:=vA.cons.1 hB;unfold yj at h
  split at h
  ·rename_i hk
   cases h
   unfold put;rw [if_pos hk];refine⟨N0 _,?_,?_⟩
   ·simp [h1,hk]
   simp only [Nat.sub_self,List.modify_zero_cons]
   exact vA.cons.2 ⟨⟨rfl,rfl⟩,h3⟩
  rename_i hk
  obtain⟨a,b,c⟩:=Jq (v:=v) h h3;have hj:j - i=(j - (i+1))+1:=by omega
  refine⟨by omega,?_,?_⟩
  ·rw [hj];simpa using b
  rw [hj,List.modify_succ_cons]
  unfold put;rw [if_neg hk];exact vA.cons.2 ⟨⟨h1,h2⟩,c⟩
theorem z6.update {w:World}{b:Nat}{l:List (K×Value)}(h:z6 w b enc l)(L:qt P kt enc){mt et:TypeId}(hm:P.underlying mt=some (.map kt et))(k:K)(v:Value):
 ∃o,(Instr.mapUpdate mt (.map (some b)) (enc k) v).run P w=.ok () (w.putObj b o)/\z6 (w.putObj b o) b enc (put k v l):=by
 have ad:=h.lt;obtain⟨es,c,hb,hB,hS,hC⟩:=h
 cases hi:yj k l 0 with
 |none=>
  refine⟨.map (es.push {key:=enc k,val:=v,born:=c}) (c+1),?_,_,_,World.putObj_heap_same ad,?_,?_,?_⟩
  ·unfold Instr.mapUpdate
   simp only [Sem.run_bind,run_underlying hm,Result.andThen,yf hb,L.chk,yH L k w _ _ hB,hi,vF _ hb]
  ·rw [zeH hi]
   simp [vA] at hB⊢
   rw [hB]
  ·simp [List.pairwise_append,hS];exact λe he=>hC e (by simpa using he)
  intro e he
  simp at he
  rcases he with he|rfl
  ·have:=hC e (by simpa using he);omega
  simp
 |some p=>
  obtain⟨j,v0⟩:=p;obtain⟨_,aa,ae⟩:=Jq (v:=v) hi hB;simp only [Nat.sub_zero] at aa ae
  have ac:((es[j]?).map (·.key)).getD (enc k)=enc k:=by
   rw [show es[j]?=es.toList[j]? by simp,aa];rfl
  refine⟨.map (es.modify j λe=> {e with key:=enc k,val:=v}) c,?_,_,_,World.putObj_heap_same ad,?_,?_,?_⟩
  ·unfold Instr.mapUpdate
   simp only [Sem.run_bind,run_underlying hm,Result.andThen,yf hb,L.chk,yH L k w _ _ hB,hi,ac,Instr.keyThatStays,L.bits,if_true,Sem.run_pure,vF _ hb]
  ·simpa using ae
  ·have:(es.modify j λe=> {e with key:=enc k,val:=v}).toList.map (·.born)=es.toList.map (·.born):=by
    simp only [Array.toList_modify]
    apply List.ext_getElem?
    intro n;simp only [List.getElem?_map,List.getElem?_modify]
    by_cases hjn:j=n
    ·subst hjn;cases es.toList[j]?<;>simp
    simp [hjn]
   have h2:(es.toList.map (·.born)).Pairwise (·<·):=List.pairwise_map.2 hS;rw [← this] at h2;exact List.pairwise_map.1 h2
  intro e he
  simp only [Array.toList_modify] at he;obtain⟨n,hn⟩:=List.mem_iff_getElem?.1 he;rw [List.getElem?_modify] at hn
  cases he0:es.toList[n]? with
  |none=>rw [he0] at hn;simp at hn
  |some e0=>
   rw [he0] at hn;have h0:=hC e0 (List.mem_iff_getElem?.2 ⟨n,he0⟩)
   by_cases hjn:j=n
   ·simp [hjn] at hn;rw [← hn];exact h0
   simp [hjn] at hn;rw [← hn];exact h0
def del {V:Type}(k:K):List (K×V)->List (K×V)
 | []=>[]
 |(k',v')::l=>if k=k' then l else(k',v')::del k l
theorem zeI {k:K} :∀ {l:List (K×Value)} {i:Nat},yj k l i=none->del k l=l
 | [],_,_=>rfl
 |(k',v')::l,i,h=>by
  unfold yj at h
  split at h
  ·cases h
  rename_i hk;unfold del;rw [if_neg hk,zeI h]
theorem Jr {k:K} :∀ {l:List (K×Value)} {es:List MapEntry} {i j:Nat} {v0:Value},yj k l i=some (j,v0)->vA enc es l->
 i<=j/\j - i<es.length/\vA enc (es.eraseIdx (j - i)) (del k l)
 | [],es,i,j,v0,h,_=>by cases h
 |(k',v')::l,[],i,j,v0,h,hB=>by simp [vA] at hB
 |(k',v')::l,e::es,i,j,v0,h,hB=>by
  obtain⟨⟨h1,h2⟩,h3⟩:=vA.cons.1 hB;unfold yj at h
  split at h
  ·rename_i hk
   cases h
   unfold del;rw [if_pos hk];exact⟨N0 _,by simp,by simpa using h3⟩
  rename_i hk
  obtain⟨a,b,c⟩:=Jr h h3;have hj:j - i=(j - (i+1))+1:=by omega
  refine⟨by omega,by simp;omega,?_⟩;rw [hj,List.eraseIdx_cons_succ];unfold del;rw [if_neg hk];exact vA.cons.2 ⟨⟨h1,h2⟩,c⟩
theorem z6.delete {w:World}{b:Nat}{l:List (K×Value)}(h:z6 w b enc l)(L:qt P kt enc){mt et:TypeId}(hm:P.underlying mt=some (.map kt et))(ats:Array TypeId)(rt:TypeId)(hat:ats[0]?=some mt)(k:K):
 ∃o,(Builtin.delete_ ats rt #[.map (some b),enc k]).run P w=.ok (.tuple #[]) (w.putObj b o)/\z6 (w.putObj b o) b enc (del k l):=by
 have ac:=h.lt;obtain⟨es,c,hb,hB,hS,hC⟩:=h
 cases hi:yj k l 0 with
 |none=>
  refine⟨.map es c,?_,_,_,World.putObj_heap_same ac,?_,hS,hC⟩
  ·unfold Builtin.delete_
   simp [hat,Sem.run_bind,run_underlying hm,Result.andThen,yf hb,L.chk,yH L k w _ _ hB,hi,vF _ hb]
  rw [zeI hi];exact hB
 |some p=>
  obtain⟨j,v0⟩:=p;obtain⟨_,hj,ad⟩:=Jr hi hB;simp only [Nat.sub_zero] at hj ad;have aa:(es.eraseIdxIfInBounds j).toList=es.toList.eraseIdx j:=by simp
  refine⟨.map (es.eraseIdxIfInBounds j) c,?_,_,_,World.putObj_heap_same ac,?_,?_,?_⟩
  ·unfold Builtin.delete_
   simp [hat,Sem.run_bind,run_underlying hm,Result.andThen,yf hb,L.chk,yH L k w _ _ hB,hi,vF _ hb]
  ·rw [aa];exact ad
  ·rw [aa];exact hS.sublist (List.eraseIdx_sublist _ _)
  rw [aa];exact λe he=>hC e ((List.eraseIdx_sublist _ _).mem he)
theorem JD {V U:Type}(f:V->U)(k:K)(v:V):∀l:List (K×V),put k (f v) (l.map λp=>(p.1,f p.2))=(put k v l).map λp=>(p.1,f p.2)
 | []=>rfl
 |(k',v')::l=>by
  have ih:=JD f k v l;rw [List.map_cons]
  by_cases h:k=k'
  ·simp [put,h]
  simp [put,h,ih]
theorem V5 {V U:Type}(f:V->U)(k:K):∀l:List (K×V),del k (l.map λp=>(p.1,f p.2))=(del k l).map λp=>(p.1,f p.2)
 | []=>rfl
 |(k',v')::l=>by
  have ih:=V5 f k l;rw [List.map_cons]
  by_cases h:k=k'
  ·simp [del,h]
  simp [del,h,ih]
end
end
section
open Go
abbrev MId:=Int×Nat
abbrev zA:=MId×List UInt8
def zx(m:zA):Bool:=decide (0<=m.1.1)&& decide (m.1.1<16)&& decide (m.2.length<=1000)&& decide (1<=m.1.2)&& decide (m.1.2<=4294967294)
def jr(m:zA):List UInt8:=[UInt8.ofNat (m.1.1 % 256).toNat] ++le4 m.1.2++le4 m.2.length++m.2
def j0(l:List zA):List UInt8×Int:=
 if 64<l.length then([],101)else if l.all zx then([UInt8.ofNat (l.length % 256)] ++l.flatMap jr,0)else([],100)
structure vL where
 tk:List Nat
 log:List zA
 ws:List (MId×zA)
def zX:Nat->List (MId×zA)->zA->List (MId×zA)×List zA
 |0,ws,x=>(del x.1 ws,[x])
 |n+1,ws,x=>match zE (x.1.1,(x.1.2+1)% 4294967296) (del x.1 ws)with
  |none=>(del x.1 ws,[x])
  |some y=>((zX n (del x.1 ws) y).1,x::(zX n (del x.1 ws) y).2)
def vM(i:Int):Bool:=decide (0<=i)&& decide (i<16)
def Jk(b:vL)(i:Int):Nat:=if vM i then((b.tk[i.toNat]?.getD 0)+1)% 4294967296 else 0
def zhA(b:vL)(k:MId):Bool:=vM k.1 && decide (1<=k.2)&&((zE k b.ws).isSome||decide (k.2<=b.tk[k.1.toNat]?.getD 0))
def qd(tk:List Nat)(l:List zA):List Nat:=l.foldl (λt x=>t.set x.1.1.toNat x.1.2) tk
def xL(b:vL)(m:zA):vL×List zA×Int:=
 if zx m=false then(b,[],100)
 else if m.1.2≠Jk b m.1.1 then((if zhA b m.1 then b else {b with ws:=put m.1 m b.ws}),[],0)
 else({tk:=qd b.tk (zX b.ws.length b.ws m).2,log:=b.log++(zX b.ws.length b.ws m).2,ws:=(zX b.ws.length b.ws m).1},(zX b.ws.length b.ws m).2,0)
structure xh(b:vL):Prop where
 sixteen:b.tk.length=16
 most:∀n∈b.tk,n<=4294967294
 keys:∀p∈b.ws,p.2.1=p.1/\zx p.2=true
def qe:vL:={tk:=List.replicate 16 0,log:=[],ws:=[] }
def zY(b:vL):List zA->vL×List zA
 | []=>(b,[])
 |m::l=>((zY (xL b m).1 l).1,(xL b m).2.1++(zY (xL b m).1 l).2)
structure jH where
 kind:Int
 epoch:Nat
 ver:Int
 msgs:List zA
def qf(e:jH):Bool:=
 if e.kind=1 then decide (e.ver=0)
 else if e.kind=2 then decide (e.msgs.length=0)&& decide (0<=e.ver)&& decide (e.ver<=255)
 else if e.kind=3 then decide (e.msgs.length=0)&& decide (e.ver=0)
 else false
def jC(e:jH):List UInt8×Int:=
 if qf e=false then([],140)
 else if(j0 e.msgs).2≠0 then([],140)
 else if 4000<([UInt8.ofNat (e.kind % 256).toNat] ++le4 e.epoch++ [UInt8.ofNat (e.ver % 256).toNat] ++(j0 e.msgs).1).length then([],140)
 else([UInt8.ofNat (e.kind % 256).toNat] ++le4 e.epoch++ [UInt8.ofNat (e.ver % 256).toNat] ++(j0 e.msgs).1,0)
def Js(e:jH):Bool:=decide ((jC e).2=0)
abbrev ZA:=Nat×Int×Int
structure yW where
 book:vL
 eras:List ZA
 count:Int
 sw:Bool
def vC(l:List ZA):ZA:=l.getLast?.getD (0,0,0)
def qu(n:ZA):List ZA->Int->Int
 | [],v=>v
 |e::l,v=>if e=n then v else qu n l e.2.1
def xC(f:yW)(v:Int)(sw:Bool):yW:={f with eras:=f.eras++ [(((vC f.eras).1+1)% 4294967296,v,f.count)],sw:=sw}
def j4(f:yW)(e:jH):yW×List zA×Bool×Int:=
 if Js e=false then(f,[],false,140)
 else if e.epoch≠(vC f.eras).1 then({f with count:=f.count+1},[],false,0)
 else if e.kind=1 then({f with count:=f.count+1,book:=(zY f.book e.msgs).1},(zY f.book e.msgs).2,false,0)
 else if e.kind=2 then
  if ye (vC f.eras).2.1 e.ver≠0 then({f with count:=f.count+1},[],false,0)
  else(xC {f with count:=f.count+1} e.ver true,[],true,0)
 else if f.sw=false then({f with count:=f.count+1},[],false,0)
 else(xC {f with count:=f.count+1} (qu (vC f.eras) f.eras 0) false,[],true,0)
def ZB(v:Int):yW:={book:=qe,eras:=[(1,v,0)],count:=0,sw:=false}
end
open Go Go.RowKit
abbrev Own:=Nat->List Nat
def Sub(t u:List Nat):Prop:=t<+:u
theorem Sub.rfl'(t:List Nat):Sub t t:=U0 t
theorem Sub.child(t:List Nat)(i:Nat):Sub t (t++ [i]):=List.prefix_append t [i]
theorem Sub.trans {a b c:List Nat}(h:Sub a b)(k:Sub b c):Sub a c:=List.IsPrefix.trans h k
theorem zj {t:List Nat}(h:t≠ []):¬Sub t []:=λe=>h (List.prefix_nil.1 e)
def zfH(t u:List Nat):Prop:=¬Sub t u/\¬Sub u t
theorem zfH.sub {t u v:List Nat}(h:zfH t u)(hv:Sub u v):¬Sub t v:=λe=>by
 rcases List.prefix_or_prefix_of_prefix e hv with h1|h1
 ·exact h.1 h1
 exact h.2 h1
theorem zS(t:List Nat){i j:Nat}(h:i≠j):zfH (t++ [i]) (t++ [j]):=by
 constructor
 ·intro e;have:=(List.prefix_append_right_inj t).1 e;simp at this;exact h this
 intro e;have:=(List.prefix_append_right_inj t).1 e;simp at this;exact h this.symm
theorem zU(t:List Nat)(i:Nat):¬Sub (t++ [i]) t:=λe=>by
 have:=List.IsPrefix.length_le e;rw [N1,U2] at this;omega
structure zt(t:List Nat)(ow:Own)(W:World)(ow':Own)(W':World):Prop where
 mod:Mod (λk=>Sub t (ow k)) W W'
 agree:∀k,k<W.heap.size->ow' k=ow k
theorem zt.refl(t:List Nat)(ow:Own)(W:World):zt t ow W ow W:=⟨Mod.refl _ _,λ_ _=>rfl⟩
theorem zt.trans {t:List Nat}{o1 o2 o3:Own}{A B C:World}(h:zt t o1 A o2 B)(k:zt t o2 B o3 C):zt t o1 A o3 C:=
 ⟨h.mod.trans k.mod (λ_ _ e=>e) (λi hi e=>by rw [h.agree i hi] at e;exact e),λi hi=>(k.agree i (Nat.lt_of_lt_of_le hi h.mod.size)).trans (h.agree i hi)⟩
theorem zt.mono {t u:List Nat}{o1 o2:Own}{A B:World}(h:zt u o1 A o2 B)(hs:Sub t u):zt t o1 A o2 B:=
 ⟨h.mod.mono (λ_ _ e=>hs.trans e),h.agree⟩
theorem zt.of_below(t:List Nat)(ow:Own){W W':World}(h:Below W.heap.size W W'):zt t ow W ow W':=⟨Mod.of_below _ h,λ_ _=>rfl⟩
theorem zt.alloc(t:List Nat)(ow:Own)(W:World)(o:Obj):zt t ow W ow (W.alloc o):=⟨Mod.alloc _ W o,λ_ _=>rfl⟩
theorem zt.drew(t:List Nat)(ow:Own)(W:World):zt t ow W ow W.drew:=⟨Mod.drew _ W,λ_ _=>rfl⟩
theorem zt.drewN(t:List Nat)(ow:Own)(W:World)(n:Nat):zt t ow W ow (W.drewN n):=⟨⟨rfl,rfl,rfl,N0 _,λ_ _ _=>rfl⟩,λ_ _=>rfl⟩
theorem zt.setCell {t:List Nat}{ow:Own}(W:World)(a:Addr)(v:Value)(h:Sub t (ow a.block)):zt t ow W ow (W.setCell a v):=⟨Mod.setCell W a v h,λ_ _=>rfl⟩
theorem zt.setNew {t:List Nat}{ow o1:Own}{W W1:World}(h:zt t ow W o1 W1)(a:Addr)(v:Value)(ha:W.heap.size<=a.block):zt t ow W o1 (W1.setCell a v):=
 ⟨h.mod.trans (Mod.setCell (X:=λk=>k=a.block) W1 a v rfl) (λ_ _ e=>e) (λi hi e=>by omega),h.agree⟩
theorem zt.putObj {t:List Nat}{ow:Own}(W:World)(r:Nat)(o:Obj)(h:Sub t (ow r)):zt t ow W ow (W.putObj r o):=⟨Mod.putObj W r o h,λ_ _=>rfl⟩
theorem zt.putNew {t:List Nat}{ow o1:Own}{W W1:World}(h:zt t ow W o1 W1)(r:Nat)(o:Obj)(ha:W.heap.size<=r):zt t ow W o1 (W1.putObj r o):=
 ⟨h.mod.trans (Mod.putObj (X:=λk=>k=r) W1 r o rfl) (λ_ _ e=>e) (λi hi e=>by omega),h.agree⟩
theorem zt.grown {t:List Nat}{ow:Own}{W W':World}{row:Option Nat}(h:W.grownBy W' row)(hr:∀k,row=some k->Sub t (ow k)):zt t ow W ow W':=
 ⟨⟨h.os,h.tape,h.output,h.size,λk hk hn=>h.block k hk (λe=>hn (hr k e.symm))⟩,λ_ _=>rfl⟩
theorem zt.own {t:List Nat}{ow o1 o2:Own}{W W1:World}(h:zt t ow W o1 W1)(h2:∀k,k<W.heap.size->o2 k=o1 k):zt t ow W o2 W1:=
 ⟨h.mod,λk hk=>(h2 k hk).trans (h.agree k hk)⟩
theorem zt.size {t:List Nat}{ow ow':Own}{W W':World}(h:zt t ow W ow' W'):W.heap.size<=W'.heap.size:=h.mod.size
theorem zt.block {t:List Nat}{ow ow':Own}{W W':World}(h:zt t ow W ow' W'){k:Nat}(hk:k<W.heap.size)(hn:¬Sub t (ow k)):W'.heap[k]?=W.heap[k]?:=h.mod.block k hk hn
theorem zt.cell {t:List Nat}{ow ow':Own}{W W':World}(h:zt t ow W ow' W'){p:Addr}(hk:p.block<W.heap.size)(hn:¬Sub t (ow p.block)):W'.cell? p=W.cell? p:=h.mod.cell hk hn
theorem zt.below {t:List Nat}{ow ow':Own}{W W':World}{B:Nat}(h:zt t ow W ow' W')(hB:B<=W.heap.size)(hn:∀k,k<B->¬Sub t (ow k)):Below B W W':=
 ⟨h.mod.os,h.mod.tape,h.mod.output,h.mod.size,λk hk=>h.mod.block k (by omega) (hn k hk)⟩
def yI(t:List Nat)(A:Own->World->Prop):Prop:=
 ∀ow ow' W W',A ow W->W.heap.size<=W'.heap.size->(∀k,k<W.heap.size->Sub t (ow k)->ow' k=ow k/\W'.heap[k]?=W.heap[k]?)->A ow' W'
theorem yI.step {t u:List Nat}{A:Own->World->Prop}(hA:yI t A){ow ow':Own}{W W':World}(h:A ow W)(hs:zt u ow W ow' W')(hd:zfH u t):A ow' W':=
 hA _ _ _ _ h hs.size (λk hk hk2=>⟨hs.agree k hk,hs.block hk (hd.sub hk2)⟩)
theorem yI.below {t:List Nat}{A:Own->World->Prop}(hA:yI t A){ow:Own}{W W':World}(h:A ow W)(hs:Below W.heap.size W W'):A ow W':=
 hA _ _ _ _ h hs.size (λk hk _=>⟨rfl,hs.block k hk⟩)
noncomputable def Own.ext(ow:Own)(n:Nat)(S:Nat->Prop)(t:List Nat):Own:=λk=>if k<n then ow k else(open Classical in if S k then t else [])
theorem Own.ext_old {ow:Own}{n:Nat}{S:Nat->Prop}{t:List Nat}{k:Nat}(h:k<n):ow.ext n S t k=ow k:=if_pos h
theorem Own.ext_new {ow:Own}{n:Nat}{S:Nat->Prop}{t:List Nat}{k:Nat}(h:n<=k)(hs:S k):ow.ext n S t k=t:=by
 unfold Own.ext;rw [if_neg (by omega),if_pos hs]
theorem Own.ext_none {ow:Own}{n:Nat}{S:Nat->Prop}{t:List Nat}{k:Nat}(h:n<=k)(hs:¬S k):ow.ext n S t k=[]:=by
 unfold Own.ext;rw [if_neg (by omega),if_neg hs]
noncomputable abbrev Own.cut(ow:Own)(w:World):Own:=ow.ext w.heap.size (λ_=>False) []
theorem Own.cut_old {ow:Own}{w:World}{k:Nat}(h:k<w.heap.size):ow.cut w k=ow k:=Own.ext_old h
theorem Own.cut_new {ow:Own}{w:World}{k:Nat}(h:w.heap.size<=k):ow.cut w k=[]:=Own.ext_none h (λh=>h)
theorem yI.cut {t:List Nat}{A:Own->World->Prop}(hA:yI t A){ow:Own}{w W:World}(h:A ow w)(hb:Below w.heap.size w W):A (ow.cut w) W:=
 hA _ _ _ _ h hb.size (λk hk _=>⟨Own.cut_old hk,hb.block k hk⟩)
theorem zt.wrap {t:List Nat}{ow ow2:Own}{w W w2:World}(hb:Below w.heap.size w W)(h:zt t (ow.cut w) W ow2 w2):zt t ow w ow2 w2:=
 ⟨(Mod.of_below (λk=>Sub t (ow k)) hb).trans h.mod (λ_ _ e=>e) (λk hk e=>by rwa [Own.cut_old hk] at e),λk hk=>(h.agree k (Nat.lt_of_lt_of_le hk hb.size)).trans (Own.cut_old hk)⟩
theorem zt.free {t:List Nat}(ht:t≠ []){ow ow2:Own}{w W w2:World}(h:zt t (ow.cut w) W ow2 w2){k:Nat}(hk:w.heap.size<=k)(hk2:k<W.heap.size):w2.heap[k]?=W.heap[k]?/\ow2 k=[]:=
 ⟨h.block hk2 (by rw [Own.cut_new hk];exact zj ht),(h.agree k hk2).trans (Own.cut_new hk)⟩
theorem yI.put {t:List Nat}(ht:t≠ []){A:Own->World->Prop}(hA:yI t A){ow:Own}{w:World}(h:A ow w){D:Nat}(hD:ow D=[])(o:Obj):A ow (w.putObj D o):=
 hA _ _ _ _ h (by simp) (λk hk hs=>⟨rfl,U1 (λe=>by subst e;rw [hD] at hs;exact zj ht hs)⟩)
abbrev Row(w:World)(e:TypeId)(size:Nat)(v:Value)(n:Nat)(xs:List Value):Prop:=w.ownsRow 0 e size v n xs
theorem z7(w:World)(e:TypeId)(size:Nat):Row w e size (.slice none 0 0) 0 []:=World.ownsRow_nil w 0 e size
theorem Row.lt {w:World}{e:TypeId}{size:Nat}{v:Value}{n:Nat}{xs:List Value}(h:Row w e size v n xs){g:Nat}(hg:v.ownBlock=some g):g<w.heap.size:=by
 rcases h.2 with⟨rfl,_⟩|⟨g',cap,cur,rfl,_,hgg,_⟩
 ·cases hg
 cases hg;exact(N5.1 hgg).1
theorem Row.kept {w w':World}{e:TypeId}{size:Nat}{v:Value}{n:Nat}{xs:List Value}(h:Row w e size v n xs)(hb:∀g,v.ownBlock=some g->w'.heap[g]?=w.heap[g]?):Row w' e size v n xs:=by
 rcases h with⟨h1,h2⟩
 refine⟨h1,?_⟩
 rcases h2 with h2|⟨g,cap,cur,rfl,hb0,hg,r⟩
 ·exact .inl h2
 exact .inr ⟨g,cap,cur,rfl,hb0,(hb g rfl).trans hg,r⟩
theorem Row.below {w w':World}{e:TypeId}{size:Nat}{v:Value}{n:Nat}{xs:List Value}(h:Row w e size v n xs)(hb:Below w.heap.size w w'):Row w' e size v n xs:=
 h.kept (λg hg=>hb.block g (h.lt hg))
theorem Row.mod {X:Nat->Prop}{w w':World}{e:TypeId}{size:Nat}{v:Value}{n:Nat}{xs:List Value}(h:Row w e size v n xs)(hm:Mod X w w')(hx:∀g,v.ownBlock=some g->¬X g):Row w' e size v n xs:=
 h.kept (λg hg=>hm.block g (h.lt hg) (hx g hg))
theorem Row.step {t:List Nat}{ow ow':Own}{w w':World}{e:TypeId}{size:Nat}{v:Value}{n:Nat}{xs:List Value}(h:Row w e size v n xs)(hs:zt t ow w ow' w')(hx:∀g,v.ownBlock=some g->¬Sub t (ow g)):Row w' e size v n xs:=
 h.mod hs.mod hx
theorem Row.type {w:World}{e:TypeId}{size:Nat}{v:Value}{n:Nat}{xs:List Value}(h:Row w e size v n xs){g:Nat}(hg:v.ownBlock=some g):∃cur,w.heap[g]?=some (.cells cur e (0,0)):=by
 rcases h.2 with⟨rfl,_⟩|⟨g',cap,cur,rfl,_,hgg,_⟩
 ·cases hg
 cases hg;exact⟨cur,hgg⟩
theorem Row.form {w:World}{e:TypeId}{size:Nat}{v:Value}{n:Nat}{xs:List Value}(h:Row w e size v n xs):(v=.slice none 0 0/\n=0/\xs=[])∨∃g cap,v=.slice (some ⟨g,0,none⟩) n cap/\n<=cap/\cap<=maxLen:=by
 rcases h.2 with⟨rfl,h0⟩|⟨g,cap,cur,rfl,_,_,hc,hm,_⟩
 ·subst h0;exact .inl ⟨rfl,rfl,N9 (by simpa using h.1)⟩
 exact .inr ⟨g,cap,rfl,hc,hm⟩
theorem Blk.ne_map {w:World}{B mb:Nat}{cs:Array Value}{T:TypeId}{K:Type}{enc:K->Value}{l:List (K×Value)}(h:Blk w B cs T)(hM:z6 w mb enc l):B≠mb:=by
 rintro rfl;obtain⟨es,c,hb,_⟩:=hM;exact absurd (h.symm.trans hb) (by simp)
theorem Row.ne_map {w:World}{e:TypeId}{size:Nat}{v:Value}{n:Nat}{xs:List Value}{mb:Nat}{K:Type}{enc:K->Value}{l:List (K×Value)}(h:Row w e size v n xs)(hM:z6 w mb enc l){g:Nat}(hg:v.ownBlock=some g):g≠mb:=by
 rintro rfl;obtain⟨aa,hc⟩:=h.type hg;obtain⟨es,c,hb,_⟩:=hM;exact absurd (hc.symm.trans hb) (by simp)
theorem Row.ne_blk {w:World}{e:TypeId}{size:Nat}{v:Value}{n:Nat}{xs:List Value}{B:Nat}{cs:Array Value}{T:TypeId}(h:Row w e size v n xs)(hB:Blk w B cs T)(hT:e≠T){g:Nat}(hg:v.ownBlock=some g):g≠B:=by
 rintro rfl;obtain⟨aa,hc⟩:=h.type hg;have:=hc.symm.trans hB;simp at this
 exact hT this.2
def Src(w:World)(v:Value)(size n:Nat)(xs:List Value):Prop:=
 xs.length=n*size/\((v=.slice none 0 0/\n=0)∨∃b off cap,v=.slice (some ⟨b,off,none⟩) n cap/\n<=cap/\∀j u,xs[j]?=some u->w.cell? ⟨b,off+j,none⟩=some u)
theorem Row.src {w:World}{e:TypeId}{size:Nat}{v:Value}{n:Nat}{xs:List Value}(h:Row w e size v n xs):Src w v size n xs:=by
 refine⟨h.1,?_⟩
 rcases h.2 with h0|⟨g,cap,cur,rfl,_,hg,hc,_,_,ht⟩
 ·exact .inl h0
 refine .inr ⟨g,0,cap,rfl,hc,λj u hu=>?_⟩
 have aa:j<n*size:=by rw [← h.1];exact(N6.1 hu).1
 rw [Nat.zero_add,h.cellAt j aa,hu]
theorem zhB(w:World)(size:Nat):Src w (.slice none 0 0) size 0 []:=⟨by simp,.inl ⟨rfl,rfl⟩⟩
theorem Src.kept {w w':World}{v:Value}{size n:Nat}{xs:List Value}(h:Src w v size n xs)(hb:∀a l c,v=.slice (some a) l c->w'.heap[a.block]?=w.heap[a.block]?):Src w' v size n xs:=by
 refine⟨h.1,?_⟩
 rcases h.2 with h0|⟨b,off,cap,rfl,hc,hr⟩
 ·exact .inl h0
 exact .inr ⟨b,off,cap,rfl,hc,λj u hu=>(World.cell?_of_block (w:=w) (w':=w') (a:=⟨b,off+j,none⟩) (show w'.heap[b]?=w.heap[b]? from hb ⟨b,off,none⟩ _ _ rfl)).trans (hr j u hu)⟩
theorem jO {w:World}{p:Addr}{u:Value}(h:w.cell? p=some u):p.block<w.heap.size:=by
 rcases Nat.lt_or_ge p.block w.heap.size with h'|h'
 ·exact h'
 simp [World.cell?,Array.getElem?_eq_none h'] at h
theorem Src.below {w w':World}{v:Value}{size n:Nat}{xs:List Value}(h:Src w v size n xs)(hb:Below w.heap.size w w'):Src w' v size n xs:=by
 refine⟨h.1,?_⟩
 rcases h.2 with h0|⟨b,off,cap,rfl,hc,hr⟩
 ·exact .inl h0
 exact .inr ⟨b,off,cap,rfl,hc,λj u hu=>(hb.cell (jO (hr j u hu))).trans (hr j u hu)⟩
theorem Src.step {t:List Nat}{ow ow':Own}{w w':World}{v:Value}{size n:Nat}{xs:List Value}(h:Src w v size n xs)(hs:zt t ow w ow' w')(hn:∀a l c,v=.slice (some a) l c->¬Sub t (ow a.block)):Src w' v size n xs:=by
 refine⟨h.1,?_⟩
 rcases h.2 with h0|⟨b,off,cap,rfl,hc,hr⟩
 ·exact .inl h0
 exact .inr ⟨b,off,cap,rfl,hc,λj u hu=>(hs.cell (p:=⟨b,off+j,none⟩) (jO (hr j u hu)) (show¬Sub t (ow b)from hn ⟨b,off,none⟩ _ _ rfl)).trans (hr j u hu)⟩
theorem jP {w:World}{b:Nat}{cs:Array Value}{t:TypeId}{n size cap:Nat}(h:Blk w b cs t)(hs:cs.size=n*size)(hc:n<=cap):Src w (.slice (some ⟨b,0,none⟩) n cap) size n cs.toList:=
 ⟨by simpa using hs,.inr ⟨b,0,cap,rfl,hc,λj u hu=>by rw [Nat.zero_add,h.cell j];simpa using hu⟩⟩
theorem Row.shape {w:World}{e:TypeId}{size:Nat}{v:Value}{n:Nat}{xs:List Value}(h:Row w e size v n xs):∃a m c,v=.slice a m c:=by
 rcases h.form with⟨h, -⟩|⟨g,cap,h, -⟩
 ·exact⟨_,_,_,h⟩
 exact⟨_,_,_,h⟩
theorem Mod.grown {X:Nat->Prop}{W W':World}{row:Option Nat}(h:W.grownBy W' row)(hr:∀k,row=some k->X k):Mod X W W':=⟨h.os,h.tape,h.output,h.size,λk hk hn=>h.block k hk (λe=>hn (hr k e.symm))⟩
theorem jI {w:World}{p:Addr}{v:Value}(h:w.cell? p=some v)(o:Obj):(w.alloc o).cell? p=some v:=(((N2 w.heap.size w).alloc (N0 _) o).cell (jO h)).trans h
structure Yc(P:Program)(t e:TypeId)(size bytes:Nat)(z:Value):Prop where
 under:P.underlying t=some (.slice e)
 info:(P.info? e).map (λi=>(i.zero,i.size,i.bytes))=some (some z,size,bytes)
 cells:z.cells.size=size
 pos:0<size
 small:bytes<=4096
theorem zQ {P:Program}{t e:TypeId}{size bytes:Nat}{z:Value}(T:Yc P t e size bytes z){w:World}{v src:Value}{n m:Nat}{xs news:List Value}
 (hv:Row w e size v n xs) (hs:Src w src size m news) (h1:∀u∈news,u.oneCell'=true) (hb:n+m<=1073741824) (ty:TypeId):
 ∃v' w',(Builtin.append_ #[t,t] ty #[v,src]).run P w=.ok v' w'/\Row w' e size v' (n+m) (xs++news)/\w.grownBy w' v.ownBlock/\(v'.ownBlock=v.ownBlock∨v'.ownBlock=some w.heap.size):=by
 obtain⟨i,hi,ad,af,ae⟩:=info_parts T.info
 rcases hs.2 with⟨rfl,rfl⟩|⟨b,off,cap,rfl,_,hr⟩
 ·have hn:news=[]:=N9 (by simpa using hs.1)
  subst hn;exact⟨v,w,run_append_owned_none (w:=w) 0 t ty e i size T.under hi v n xs hv,by simpa using hv,⟨rfl,rfl,rfl,N0 _,λ_ _ _=>rfl⟩,.inl rfl⟩
 have ac:∀j,(⟨b,off,none⟩:Addr).add j=⟨b,off+j,none⟩:=λj=>by unfold Addr.add;split<;>simp_all
 have aa:(n+m)*bytes<=140737488355328:=by
  have:=Nat.mul_le_mul hb T.small;omega
 obtain⟨v',w',h2,h3,h4,_,h5⟩:=run_append_own_at (P:=P) w 0 t ty e i z size bytes T.under hi ad af ae T.cells T.pos v n xs hv ⟨b,off,none⟩ m cap news hs.1
  (λj u hu=>by rw [ac];exact hr j u hu) h1 (by unfold maxLen;omega) aa (Nat.zero_le _)
 exact⟨v',w',h2,h3,h4,h5⟩
theorem zw {P:Program}{w:World}{ops:Array Oper}{rest:List Oper}{o:Oper}{a:Act}{Q:Exit->Act->World->Prop}(hgd:o.guard=none)(s x:Operand)(t:TypeId)
 (ho:o.op=.call {callee:=.builtin .append,args:=#[s,x],argTypes:=#[t,t] }) {v src:Value} (hs:a.eval s=v) (hx:a.eval x=src)
 {v':Value} {w':World} (hr:(Builtin.append_ #[t,t] o.type #[v,src]).run P w=.ok v' w') (h:wpList P ops Q rest (a.put o.dst v') w'):wpList P ops Q (o::rest) a w:=by
 refine wpList_plain hgd λK hK=>?_
 unfold Oper.wp execOp;simp only [ho,resolve,invoke,builtin,Sem.run_bind,Sem.run_pure,Result.andThen_ok,List.map_toArray,List.map_cons,List.map_nil,hs,hx,hr];exact hK _ _ h
theorem Qt {P:Program}{w:World}{o:Oper}{a:Act}{K:Act->World->Prop}{Q:Exit->Act->World->Prop}(s x:Operand)(t:TypeId)
 (ho:o.op=.call {callee:=.builtin .append,args:=#[s,x],argTypes:=#[t,t] }) {v src:Value} (hs:a.eval s=v) (hx:a.eval x=src)
 {v':Value} {w':World} (hr:(Builtin.append_ #[t,t] o.type #[v,src]).run P w=.ok v' w') (h:K (a.put o.dst v') w'):o.wp P a w K Q:=by
 unfold Oper.wp execOp;simp only [ho,resolve,invoke,builtin,Sem.run_bind,Sem.run_pure,Result.andThen_ok,List.map_toArray,List.map_cons,List.map_nil,hs,hx,hr];exact h
theorem yt {P:Program}{w:World}{ops:Array Oper}{rest:List Oper}{o:Oper}{a:Act}{Q:Exit->Act->World->Prop}(hgd:o.guard=none)(s x:Operand)(t1 t2:TypeId)
 (ho:o.op=.call {callee:=.builtin .delete,args:=#[s,x],argTypes:=#[t1,t2] }) {v k:Value} (hs:a.eval s=v) (hx:a.eval x=k)
 {v':Value} {w':World} (hr:(Builtin.delete_ #[t1,t2] o.type #[v,k]).run P w=.ok v' w') (h:wpList P ops Q rest (a.put o.dst v') w'):wpList P ops Q (o::rest) a w:=by
 refine wpList_plain hgd λK hK=>?_
 unfold Oper.wp execOp;simp only [ho,resolve,invoke,builtin,Sem.run_bind,Sem.run_pure,Result.andThen_ok,List.map_toArray,List.map_cons,List.map_nil,hs,hx,hr];exact hK _ _ h
theorem j1 {F:Fence}{k:Nat}{P:Program}{w:World}{ops:Array Oper}{rest:List Oper}{o:Oper}{a:Act}{Q:Exit->Act->World->Prop}(hgd:o.guard=none)(s x:Operand)(t:TypeId)
 (ho:o.op=.call {callee:=.builtin .append,args:=#[s,x],argTypes:=#[t,t] }) {v src:Value} (hs:a.eval s=v) (hx:a.eval x=src)
 {v':Value} {w':World} (hr:(Builtin.append_ #[t,t] o.type #[v,src]).run P w=.ok v' w') (h:wpListIn F k P ops Q rest (a.put o.dst v') w'):wpListIn F k P ops Q (o::rest) a w:=by
 refine wpListIn_plain hgd λK hK=>?_
 unfold Oper.wpIn;refine⟨?_,?_⟩
 ·simp [Oper.about,ho,resolve,Target.leads,Sem.run_pure]
 rw [Oper.semAt_plain F _ _ (by rw [ho];intro c hc';cases hc')]
 simp [execOp,ho,resolve,invoke,builtin,hs,hx,hr,Result.andThen]
 exact hK _ _ h
theorem Qq.alloc {σ:Type}{I:σ->(Nat->Prop)->World->Prop}(h:Qq I){s:σ}{X:Nat->Prop}{W:World}(o:Obj)(hi:I s X W):I s (λk=>X k∨k=W.heap.size) (W.alloc o):=
 h _ _ _ _ _ hi (Mod.alloc _ W o) (λk hk=>by rcases hk with h|h;exact .inl h;exact .inr (by subst h;simp))
