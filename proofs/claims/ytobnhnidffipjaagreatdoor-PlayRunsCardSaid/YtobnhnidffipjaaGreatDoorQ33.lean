/- PARTS OF THE PROOF. -/
import Derived.Lib.ConvBytes
import Derived.Test.YtobnhnidffipjaaGreatDoorQ13
import Derived.Test.YtobnhnidffipjaaGreatDoorQ30
import Derived.Test.YtobnhnidffipjaaGreatDoorQ31
import Derived.Test.YtobnhnidffipjaaGreatDoorQ32
set_option maxRecDepth 8000
set_option maxHeartbeats 4000000
open Go.Proofs.Tryz
namespace Go.Proofs.YtobnhnidffipjaaGreatDoor
open Go Go.RowKit Go.Shelf Go.Extern.Stop Go.Stop Go.Extern
attribute [local go_sem] Oper.semAt_some zw zn
def zah(w:World)(b:Nat)(cs:Array Value)(t:TypeId):Prop:=w.heap[b]?=some (.cells cs t (cs.size,cs.size+1))
theorem zah.cell {w:World}{b:Nat}{cs:Array Value}{t:TypeId}(h:zah w b cs t)(o:Nat):w.cell? ⟨b,o,none⟩=cs[o]?:=by
 unfold zah at h;simp [World.cell?,h]
theorem zah.frozen {w:World}{b:Nat}{cs:Array Value}{t:TypeId}(h:zah w b cs t){o:Nat}(ho:o<cs.size):w.frozen? ⟨b,o,none⟩=false:=by
 unfold zah at h;simp [World.frozen?,h]
 omega
theorem zah.lt {w:World}{b:Nat}{cs:Array Value}{t:TypeId}(h:zah w b cs t):b<w.heap.size:=(N5.1 h).1
theorem zah.kept {w w':World}{b:Nat}{cs:Array Value}{t:TypeId}(h:zah w b cs t)(hb:w'.heap[b]?=w.heap[b]?):zah w' b cs t:=hb.trans h
theorem zah.set {w:World}{b o:Nat}{cs:Array Value}{t:TypeId}(h:zah w b cs t)(v:Value):zah (w.setCell ⟨b,o,none⟩ v) b (cs.setIfInBounds o v) t:=by
 unfold zah at h⊢
 show(w.heap.modify b _)[b]?=_
 rw [Array.getElem?_modify,if_pos rfl,h];simp
theorem zc4(a b:UInt8):bits .xor .u8 (a.toNat:Int) (b.toNat:Int)=((a ^^^ b).toNat:Int):=by
 have ha:=a.toNat_lt;have hb:=b.toNat_lt;have hx:a.toNat ^^^ b.toNat<2 ^ 8:=Nat.xor_lt_two_pow (by omega) (by omega)
 have h1:(BitVec.ofInt 8 (a.toNat:Int)).toNat=a.toNat:=by
  rw [BitVec.ofInt_natCast,BitVec.toNat_ofNat];exact Nat.mod_eq_of_lt (by omega)
 have h2:(BitVec.ofInt 8 (b.toNat:Int)).toNat=b.toNat:=by
  rw [BitVec.ofInt_natCast,BitVec.toNat_ofNat];exact Nat.mod_eq_of_lt (by omega)
 show IntKind.u8.wrap ((BitVec.ofInt 8 (a.toNat:Int)^^^ BitVec.ofInt 8 (b.toNat:Int)).toNat:Int)=_
 rw [BitVec.toNat_xor,h1,h2,IntKind.wrap_u8,UInt8.toNat_xor];omega
theorem XU(x:Nat):strOfNums [(x:Int)% 256,(x:Int) / 256 % 256,(x:Int) / 65536 % 256,(x:Int) / 16777216 % 256,(x:Int) / 4294967296 % 256]=bs (le4 x++ [UInt8.ofNat (x / 4294967296)]):=by
 have h1:((x:Int) / 256)=((x / 256:Nat):Int):=by omega
 have h2:((x:Int) / 65536)=((x / 65536:Nat):Int):=by omega
 have h3:((x:Int) / 16777216)=((x / 16777216:Nat):Int):=by omega
 have h4:((x:Int) / 4294967296)=((x / 4294967296:Nat):Int):=by omega
 unfold strOfNums bs le4;rw [h1,h2,h3,h4];simp only [List.map_cons,List.map_nil,Vn,Jn];rfl
def zc5(l:List UInt8):List Value:=l.map λb=>Value.int .u8 b.toNat
def zfF(s m:List UInt8)(a k:Nat):List UInt8:=s.take a++Y7 (s.drop a) (m.take k)
theorem zai(s m:List UInt8)(a k:Nat)(ha:a<=s.length):(zfF s m a k).length=s.length:=by
 unfold zfF;rw [N1,xT,N7,U3];omega
theorem zho(s m:List UInt8)(a:Nat):zfF s m a 0=s:=by
 unfold zfF;rw [List.take_zero,JW _ _ (λc hc=>by cases hc),List.take_append_drop]
theorem zbD:∀(l m:List UInt8)(k:Nat)(x b:UInt8),m[k]?=some x->l[k]?=some b->Y7 l (m.take (k+1))=(Y7 l (m.take k)).set k (b ^^^ x)/\(Y7 l (m.take k))[k]?=some b
 | [],_,_,_,_,_,h=>by simp at h
 |_::_,[],_,_,_,h,_=>by simp at h
 |c::l,d::m,0,x,b,h,g=>by
  simp at h g
  subst h;subst g
  rw [List.take_zero];simp [Y7,JW]
 |c::l,d::m,k+1,x,b,h,g=>by
  obtain⟨h1,h2⟩:=zbD l m k x b (by simpa using h) (by simpa using g);rw [List.take_succ_cons,List.take_succ_cons];simp only [Y7];rw [h1];exact⟨rfl,by simpa using h2⟩
theorem zhp {s m:List UInt8}{a k:Nat}{x b:UInt8}(hx:m[k]?=some x)(hb:s[a+k]?=some b):zfF s m a (k+1)=(zfF s m a k).set (a+k) (b ^^^ x)/\(zfF s m a k)[a+k]?=some b:=by
 have ha:=(N6.1 hb).1;have hl:(s.take a).length=a:=by rw [N7];omega
 obtain⟨h1,h2⟩:=zbD (s.drop a) m k x b hx (by rw [List.getElem?_drop];exact hb);unfold zfF;rw [h1,List.set_append_right _ _ (by omega),U6 (by omega),hl,Nat.add_sub_cancel_left];exact⟨rfl,h2⟩
theorem zee {s m:List UInt8}{a k:Nat}(h:s.length<=a+k∨m.length<=k):zfF s m a k=s.take a++Y7 (s.drop a) m:=by
 unfold zfF
 congr 1
 rcases h with h|h
 ·rw [← JX (s.drop a) (m.take k),List.take_take,Nat.min_eq_left (by rw [U3];omega),JX]
 ·rw [List.take_of_length_le h]
def zku(s m:List UInt8)(a:Nat)(rest:List Value)(g:Nat)(W0:World)(k:Nat)(X:Nat->Prop)(W:World):Prop:=
 Fr (λk=>k=g) W0 X W/\zah W g (zc5 (zfF s m a k)++rest).toArray 5
theorem YU(l:List UInt8):strOfNums (l.map λb=>(b.toNat:Int))=bs l:=by
 unfold strOfNums bs;rw [List.map_map]
 congr 1
 congr 1
 conv=>rhs;rw [← List.map_id l]
 apply List.map_congr_left
 intro b _;simp
theorem zfG(s:List UInt8)(hs:s.length<=1073741824)(bit:Int)(h63:bit<9223372036854775808)(mask:Nat)(hm:mask<4294967296)(w:World):Calls prog 127 #[.string (bs s),.int .i64 bit,.int .u32 mask] w λe w'=>
 e=.returned (.tuple #[.string (bs (j9 s bit mask).1),.int .i64 (j9 s bit mask).2])/\Below w.heap.size w w':=by
 have hsz:=zC s;unfold j9
 by_cases hb:bit<0∨(s.length:Int)<=bit / 8
 ·rw [if_pos hb]
  by_cases h1:bit<0
  ·have t1:decide (bit<0)=true:=by simpa using h1
   replace hb:=G hb;clear h63;replace h1:=G h1;refine zl func127 rfl ?_;simp only [ntmps127,R8,Nat.reduceAdd,Nat.reduceSub];go_wp2;go_step3;go_wp2;rw [Exit.noGoto_ret];go_wp2;exact jw (v:=.tuple #[.string (bs []),.int .i64 2]) (by simp [results,Tryz.results127,go_sem];rfl) ⟨rfl,N2 _ _⟩
  ·obtain⟨b,rfl⟩:∃b:Nat,bit=(b:Int):=⟨bit.toNat,by omega⟩
   obtain⟨a,ha⟩:∃a,b / 8=a:=⟨_,rfl⟩;have q1:(b:Int).tdiv 8=(a:Int):=by rw [Int.tdiv_eq_ediv_of_nonneg (by omega)];omega
   have t1:decide ((b:Int)<0)=false:=by simp
   have hwa:IntKind.i64.wrap (a:Int)=(a:Int):=by rw [N8];omega
   have t2:decide (s.length<=a)=true:=by simp;omega
   replace hb:=G hb;clear h63;replace h1:=G h1;replace ha:=G ha;refine zl func127 rfl ?_;simp only [ntmps127,R8,Nat.reduceAdd,Nat.reduceSub];go_wp2;go_step3;go_wp2;rw [Exit.noGoto_ret];go_wp2;exact jw (v:=.tuple #[.string (bs []),.int .i64 2]) (by simp [results,Tryz.results127,go_sem];rfl) ⟨rfl,N2 _ _⟩
 ·rw [if_neg hb]
  obtain⟨b,rfl⟩:∃b:Nat,bit=(b:Int):=⟨bit.toNat,by omega⟩;obtain⟨a,ha⟩:∃a,b / 8=a:=⟨_,rfl⟩;obtain⟨r,hr⟩:∃r,b % 8=r:=⟨_,rfl⟩;rw [Int.toNat_natCast,ha,hr];have hal:a<s.length:=by omega
  have q1:(b:Int).tdiv 8=(a:Int):=by rw [Int.tdiv_eq_ediv_of_nonneg (by omega)];omega
  have q2:(b:Int).tmod 8=(r:Int):=by rw [Int.tmod_eq_emod_of_nonneg (by omega)];omega
  have t1:decide ((b:Int)<0)=false:=by simp
  have t2:decide ((s.length:Int)<=(a:Int))=false:=by simp;omega
  have hr8:r<8:=by omega
  obtain⟨W1,hW1⟩:∃W1,W1=Go.Lib.bytesWorld (w.alloc (.cells #[.int .i64 a] 3)) 5 (bs s):=⟨_,rfl⟩;have hconv:=Go.Lib.run_convert_string_bytes (P:=prog) (w.alloc (.cells #[.int .i64 a] 3)) 9 130 5 (bs s) Tryz.underlying9 Tryz.underlying130 Tryz.underlying5;rw [hsz,← hW1] at hconv;replace hb:=G hb;clear h63;replace ha:=G ha;replace hr:=G hr;refine zl func127 rfl ?_;simp only [ntmps127,R8,Nat.reduceAdd,Nat.reduceSub];go_wp2;go_step3;go_wp2_with fail
  obtain⟨x,hx⟩:∃x,mask*2 ^ r=x:=⟨_,rfl⟩
  have hwx:IntKind.u64.wrap ((mask:Int)*2 ^ r)=(x:Int):=by
   have h2:2 ^ r<=128:=by
    have:=Nat.pow_le_pow_right (n:=2) (by omega) (show r<=7 by omega)
    simpa using this
   have hlt:mask*2 ^ r<=4294967295*128:=Nat.mul_le_mul (by omega) h2;rw [show(mask:Int)*2 ^ r=((mask*2 ^ r:Nat):Int)by simp,hx,IntKind.wrap_u64];omega
  rw [hwx];go_step3
  have hmk:strOfNums [(x:Int)% 256,(x:Int) / 256 % 256,(x:Int) / 65536 % 256,(x:Int) / 16777216 % 256,(x:Int) / 4294967296 % 256]=bs (Y8 mask r):=by
   rw [XU,← hx];rfl
  have hml:(Y8 mask r).length=5:=rfl
  go_wp2_with (go_at_call 145;refine(zdz _ 0 _ [(x:Int)% 256,(x:Int) / 256 % 256,(x:Int) / 65536 % 256,(x:Int) / 16777216 % 256,(x:Int) / 4294967296 % 256] _ (λi hi=>?_)).mono ?_)
  ·obtain rfl|rfl|rfl|rfl|rfl:i=0∨i=1∨i=2∨i=3∨i=4:=by simp at hi;omega
   all_goals simp
  ·rintro e w'⟨rfl,rfl⟩
   rw [hmk]
   generalize hmm:Y8 mask r=m at*
   replace hmm:=G hmm;replace hmk:=G hmk;go_wp2_with fail
   refine(QU _ _).mono ?_;rintro e w'⟨rfl,rfl⟩;go_wp2_with fail
   have hs1:(Go.Lib.bytesWorld (w.alloc (.cells #[.int .i64 a] 3)) 5 (bs s)).heap.size=w.heap.size+1+1:=by rw [Go.Lib.bytesWorld_size];simp
   have hb1:Below w.heap.size w (Go.Lib.bytesWorld (w.alloc (.cells #[.int .i64 a] 3)) 5 (bs s)):=zf (zg (N2 _ _) _) ⟨rfl,rfl,rfl,by rw [Go.Lib.bytesWorld_size];omega,λk hk=>Go.Lib.bytesWorld_at_old _ _ _ k hk⟩
   obtain⟨rest,hrest⟩:∃rest,Go.Lib.bytesCells (w.alloc (.cells #[.int .i64 a] 3)) 5 (bs s)=(zc5 s++rest).toArray:=⟨List.replicate (grownCap (w.alloc (.cells #[.int .i64 a] 3)) (bs s).size 0 5 - (bs s).size) (.int .u8 0),by
    unfold Go.Lib.bytesCells zc5
    apply Array.ext'
    simp [bs]⟩
   have kg:zah (Go.Lib.bytesWorld (w.alloc (.cells #[.int .i64 a] 3)) 5 (bs s)) (w.heap.size+1) (zc5 s++rest).toArray 5:=by
    have h:=Go.Lib.bytesWorld_at_new (w.alloc (.cells #[.int .i64 a] 3)) 5 (bs s);rw [hrest] at h;unfold zah
    simpa using h
   have ka:Blk (Go.Lib.bytesWorld (w.alloc (.cells #[.int .i64 a] 3)) 5 (bs s)) w.heap.size #[.int .i64 a] 3:=(Blk.new (w:=w) rfl).kept (Go.Lib.bytesWorld_at_old _ _ _ _ (by simp))
   generalize grownCap (w.alloc (.cells #[.int .i64 a] 3)) s.length 0 5=gc at*
   generalize Go.Lib.bytesWorld (w.alloc (.cells #[.int .i64 a] 3)) 5 (bs s)=V at*
   obtain⟨W0,hW0⟩:∃W0,W0=((V.alloc (.cells #[.slice (some ⟨w.heap.size+1,0,none⟩) s.length gc] 130)).alloc (.cells #[.int .u8 ((x:Int)% 256),.int .u8 ((x:Int) / 256 % 256),.int .u8 ((x:Int) / 65536 % 256),.int .u8 ((x:Int) / 16777216 % 256),.int .u8 ((x:Int) / 4294967296 % 256)] 5)).alloc (.cells #[.string (bs m)] 9):=⟨_,rfl⟩;have hb0:Below w.heap.size w W0:=by rw [hW0];exact pbx
   have hz0:W0.heap.size=w.heap.size+5:=by rw [hW0];simp [hs1]
   have kc0:Blk W0 (w.heap.size+2) #[.slice (some ⟨w.heap.size+1,0,none⟩) s.length gc] 130:=by rw [hW0];exact((Blk.new hs1.symm).alloc _).alloc _
   have ks0:Blk W0 (w.heap.size+4) #[.string (bs m)] 9:=by rw [hW0];exact Blk.new (by simp [hs1])
   have ka0:Blk W0 w.heap.size #[.int .i64 a] 3:=by rw [hW0];exact((ka.alloc _).alloc _).alloc _
   have kg0:zah W0 (w.heap.size+1) (zc5 s++rest).toArray 5:=by
    rw [hW0];exact kg.kept (((U4 _ _ _ (by simp [hs1])).trans (U4 _ _ _ (by simp [hs1]))).trans (U4 _ _ _ (by omega)))
   rw [← hW0];simp only [hs1];clear hW0 kg ka hrest hb1 hconv hW1
   refine yh (gf:=212) (lb:=#[.pointer (some ⟨w.heap.size+4,0,none⟩)]) rfl (enters_of func212 (by kernel_rfl) rfl)
    (VG (w.heap.size+4) m (by omega)) (λ_=>rfl)
    (λk X W=>zku s m a rest (w.heap.size+1) W0 k X W) (λc X W=>c=.exit 0/\∃k,s.length<=a+k/\zku s m a rest (w.heap.size+1) W0 k X W)
    (λk X X' W W' h hm hx=>⟨h.1.step hm hx,h.2.kept (h.1.block hm (by omega))⟩)
    (λc u X X' W W' h hm hx=>⟨h.1,h.2.choose,h.2.choose_spec.1,h.2.choose_spec.2.1.step hm hx,h.2.choose_spec.2.2.kept (h.2.choose_spec.2.1.block hm (by omega))⟩)
    (λk X W h=>ks0.mod h.1.2 (by omega))
    ⟨Fr.refl _ _,by rw [zho];exact kg0⟩
    (λx=>[(11,.int .i64 (x.1:Nat)),(12,.int .u8 (x.2.toNat:Nat))]) ?assign ?body ?done ?stop
   case assign=>
    intro l' x W K hK;rw [yE] at hK⊢
    gi_wp2
    exact hK
   case body=>
    rintro l' k⟨q,y⟩ X W⟨hfr,kb⟩⟨hy,rfl⟩ hXl _;rw [yE];have eA:=(ka0.mod hfr.2 (by omega)).cell;have eC:=(kc0.mod hfr.2 (by omega)).cell;have lg:=kb.lt
    by_cases hq:a+q<s.length
    ·obtain⟨c,hc⟩:∃c,s[a+q]?=some c:=⟨_,N3 hq⟩
     obtain⟨h1,h2⟩:=zhp hy hc;have hwq:IntKind.i64.wrap ((a:Int)+(q:Int))=((a+q:Nat):Int):=by rw [N8];omega
     have t3:decide (s.length<=a+q)=false:=by simp;omega
     have y0:(0:Int)<=((a+q:Nat):Int):=by omega
     have y1:((a+q:Nat):Int)<(s.length:Int):=by omega
     have cB:W.cell? ⟨w.heap.size+1,a+q,none⟩=some (.int .u8 (c.toNat:Int)):=by
      rw [kb.cell,List.getElem?_toArray,U8 (by unfold zc5;rw [List.length_map,zai _ _ _ _ (by omega)];exact hq)];unfold zc5;rw [List.getElem?_map,h2];rfl
     have fB:W.frozen? ⟨w.heap.size+1,a+q,none⟩=false:=kb.frozen (by
      simp only [List.size_toArray,N1];unfold zc5
      rw [List.length_map,zai _ _ _ _ (by omega)];omega)
     have hx8:=zc4 c y
     generalize hxy:c ^^^ y=z at*
     replace hxy:=G hxy;replace h1:=G h1;replace h2:=G h2;replace hc:=G hc;replace hy:=G hy
     gi_wp2
     have hm2:Mod (λk=>k=w.heap.size+1) W (W.setCell ⟨w.heap.size+1,a+q,none⟩ (.int .u8 (z.toNat:Int))):=Mod.setCell W _ _ rfl;refine⟨⟨hfr.mod hm2 (λk _ h=>h),?_⟩,ju.of_mod hm2 (λk _ hX he=>by have:=hfr.1 k hX;omega)⟩;have hset:=kb.set (o:=a+q) (.int .u8 (z.toNat:Int))
     have hcs:(zc5 (zfF s m a q)++rest).toArray.setIfInBounds (a+q) (.int .u8 (z.toNat:Int))=(zc5 (zfF s m a (q+1))++rest).toArray:=by
      rw [h1.out,List.setIfInBounds_toArray];unfold zc5;rw [List.set_append_left _ _ (by rw [List.length_map,zai _ _ _ _ (by omega)];exact hq),← List.map_set]
     rw [hcs] at hset;exact hset
    ·have t3:decide (s.length<=a+q)=true:=by simp;omega
     have hq5:=(N6.1 hy).1;have hwq:IntKind.i64.wrap ((a:Int)+(q:Int))=((a+q:Nat):Int):=by rw [N8];omega
     gi_wp2
     exact⟨⟨rfl,q,by omega,hfr,kb⟩,ju.refl _ _⟩
   case done=>
    rintro D k X W hD hXD hfin⟨hfr,kb⟩ hdef;obtain rfl:k=m.length:=hfin;rw [zee (.inr (N0 _))] at kb;have hlen:(s.take a++Y7 (s.drop a) m).length=s.length:=by rw [N1,xT,N7,U3];omega
    generalize hd:s.take a++Y7 (s.drop a) m=d at*
    replace hd:=G hd;have hbW:Below w.heap.size w W:=hb0.trans (hfr.below (by omega) (λk h=>by omega));have eC:=(kc0.mod hfr.2 (by omega)).cell
    have hk:=run_convert_bytes_arg (P:=prog) W 130 5 Tryz.underlying130 Tryz.underlying5 (w.heap.size+1) 0 s.length gc (d.map λb=>(b.toNat:Int)) (by simp [hlen]) (λi hi=>by
     rw [Nat.zero_add,kb.cell,List.getElem?_toArray,U8 (by unfold zc5;rw [List.length_map,hlen];omega)];unfold zc5;have G:i<d.length:=by omega
     simp [G,List.getD]) 9 Tryz.underlying9
    rw [YU] at hk;go_wp2;rw [Exit.noGoto_ret];go_wp2;exact zS (D:=D) (v:=.tuple #[.string (bs d),.int .i64 0]) hdef (by simp [results,Tryz.results127,go_sem]) ⟨by rw [hmm.out,hd.out],zF hbW (by omega) _⟩
   case stop=>
    rintro D c X W hD hXD⟨rfl,k,hk,hfr,kb⟩ hdef;rw [zee (.inl hk)] at kb;have hlen:(s.take a++Y7 (s.drop a) m).length=s.length:=by rw [N1,xT,N7,U3];omega
    generalize hd:s.take a++Y7 (s.drop a) m=d at*
    replace hd:=G hd;have hbW:Below w.heap.size w W:=hb0.trans (hfr.below (by omega) (λk h=>by omega));have eC:=(kc0.mod hfr.2 (by omega)).cell
    have hk:=run_convert_bytes_arg (P:=prog) W 130 5 Tryz.underlying130 Tryz.underlying5 (w.heap.size+1) 0 s.length gc (d.map λb=>(b.toNat:Int)) (by simp [hlen]) (λi hi=>by
     rw [Nat.zero_add,kb.cell,List.getElem?_toArray,U8 (by unfold zc5;rw [List.length_map,hlen];omega)];unfold zc5;have G:i<d.length:=by omega
     simp [G,List.getD]) 9 Tryz.underlying9
    rw [YU] at hk;go_wp2;rw [Exit.noGoto_ret];go_wp2;exact zS (D:=D) (v:=.tuple #[.string (bs d),.int .i64 0]) hdef (by simp [results,Tryz.results127,go_sem]) ⟨by rw [hmm.out,hd.out],zF hbW (by omega) _⟩
theorem zc6 {B last:Nat}{notes:List (Nat×Int×List UInt8)}{g c k:Nat}{x:Nat×Int×List UInt8}{t:List Nat}{ow:Own}{W:World}(hB:Blk W B #[.int .u32 last,.slice (some ⟨g,0,none⟩) notes.length c] 110)(hR:XT W 106 3 (.slice (some ⟨g,0,none⟩) notes.length c) notes.length (notes.flatMap zT))
 (o1:ow B=t) (o2:ow g=t) (hx:notes[k]?=some x) (s:List UInt8):W.frozen? ⟨g,k*3+2,none⟩=false/\g<W.heap.size/\
  zq t ow W ow (W.setCell ⟨g,k*3+2,none⟩ (.string (bs s)))/\jk B last (notes.set k (x.1,x.2.1,s)) t ow (W.setCell ⟨g,k*3+2,none⟩ (.string (bs s))):=by
 have hk:=(N6.1 hx).1;have hgB:g≠B:=hR.ne_blk hB (by decide) rfl
 rcases hR.2 with⟨h, -⟩|⟨g',cap,cur,h,hg,h1,h2,h3,h4⟩
 ·cases h
 ·cases h
  have hBk:Blk W g cur 106:=hg;have hkn:k*3+3<=notes.length*3:=by omega
  have hset:(notes.set k (x.1,x.2.1,s)).flatMap zT=(notes.flatMap zT).set (k*3+2) (.string (bs s)):=by
   apply List.ext_getElem?
   intro i;obtain⟨q,j,hj,rfl⟩:∃q j,j<3/\i=q*3+j:=⟨i / 3,i % 3,by omega,by omega⟩
   by_cases hq:q<notes.length
   ·obtain⟨y,hy⟩:∃y,notes[q]?=some y:=⟨_,N3 hq⟩
    by_cases hqk:q=k
    ·subst hqk
     rw [hx] at hy;cases hy
     rw [xV _ q (x.1,x.2.1,s) (List.getElem?_set_self hk) j hj]
     by_cases hj2:j=2
     ·subst hj2
      rw [List.getElem?_set_self (by rw [yg];omega)];rfl
     ·rw [List.getElem?_set_ne (by omega),xV _ q x hx j hj]
      obtain rfl|rfl:j=0∨j=1:=by omega
      ·rfl
      ·rfl
    ·rw [xV _ q y (by rw [List.getElem?_set_ne (Ne.symm hqk)];exact hy) j hj,List.getElem?_set_ne (by omega),xV _ q y hy j hj]
   ·rw [List.getElem?_eq_none (by rw [yg,List.length_set];omega),List.getElem?_eq_none (by rw [List.length_set,yg];omega)]
  refine⟨hBk.frozen _,hBk.lt,zq.setCell W _ _ (by rw [o2];exact Sub.rfl' t),.slice (some ⟨g,0,none⟩) notes.length c,hB.other (p:=⟨g,k*3+2,none⟩) (Ne.symm hgB) _,?_,o1,λq hq=>by rw [←show g=q by simpa [Value.ownBlock] using hq];exact o2⟩;rw [List.length_set,hset];refine⟨by rw [List.length_set,yg],.inr ⟨g,c,_,rfl,hBk.set _,h1,h2,by simpa using h3,?_⟩⟩;rw [← h4];simp [List.take_set]
def zbE(notes:List (Nat×Int×List UInt8))(p bit:Int)(mask:Nat):List (Nat×Int×List UInt8)×Int:=if p<0 then(notes,2)else match notes[p.toNat]? with
 |none=>(notes,2)
 |some x=>if(j9 x.2.2 bit mask).2=0 then(notes.set p.toNat (x.1,x.2.1,(j9 x.2.2 bit mask).1),0)else(notes,(j9 x.2.2 bit mask).2)
theorem zfH(B last:Nat)(notes:List (Nat×Int×List UInt8))(t:List Nat)(ow:Own)(p bit:Int)(h63:bit<9223372036854775808)(mask:Nat)(hm:mask<4294967296)(w:World)(h:jk B last notes t ow w)(hlen:∀x∈notes,x.2.2.length<=1073741824):
 Calls prog 92 #[.pointer (some ⟨B,0,none⟩),.int .i64 p,.int .i64 bit,.int .u32 mask] w (vY B last (zbE notes p bit mask).1 t ow w (.int .i64 (zbE notes p bit mask).2)):=by
 have h0:=h;obtain⟨lv,hB,hR,o1,o2⟩:=h;obtain⟨ha,hc,rfl⟩:=hR.shape;have his:=λW hW=>zad B last notes.length hc ha p W hW
 have e0:=hB.cell
 by_cases hp:0<=p/\p<(notes.length:Int)
 ·obtain⟨k,rfl⟩:∃k:Nat,p=(k:Int):=⟨p.toNat,by omega⟩
  have hk:k<notes.length:=by omega
  obtain⟨x,hx⟩:∃x,notes[k]?=some x:=⟨_,N3 hk⟩
  have hhp:zbE notes (k:Int) bit mask=if(j9 x.2.2 bit mask).2=0 then(notes.set k (x.1,x.2.1,(j9 x.2.2 bit mask).1),0)else(notes,(j9 x.2.2 bit mask).2):=by
   unfold zbE;rw [if_neg (by omega),Int.toNat_natCast,hx]
  rw [hhp];simp only [show decide (0<=(k:Int))=true by simp,show decide ((k:Int)<(notes.length:Int))=true by simpa using hk,Bool.and_self] at his
  obtain⟨g,rfl⟩:∃g,ha=some ⟨g,0,none⟩:=by
   rcases hR.2 with⟨h,h1⟩|⟨g,cap,cur,h, -⟩
   ·omega
   ·cases h;exact⟨g,rfl⟩
  obtain⟨-, -,c2⟩:=Vg hR.src hx;simp only [Nat.zero_add] at c2;have hch:=λW=>zfG x.2.2 (hlen x (List.mem_of_getElem? hx)) bit h63 mask hm W
  have hwr:=λW (hb:Below w.heap.size w W) s=>zc6 (W:=W) (s:=s) (hB.call hb) (hR.kept (λq hq=>hb.block q (hR.lt hq))) o1 (o2 g rfl) hx
  have lg:=hR.lt (g:=g) rfl;obtain⟨xi,xd,xs⟩:=x;obtain⟨⟨cs,er⟩,hcr⟩:∃q,j9 xs bit mask=q:=⟨_,rfl⟩;simp only [hcr] at hch c2 hwr⊢;have y0:(0:Int)<=(k:Int):=by omega
  have y1:(k:Int)<(notes.length:Int):=by omega
  replace his:=G his;replace hch:=G hch;replace hwr:=G hwr;replace h0:=G h0;replace hx:=G hx;replace hcr:=G hcr;replace hhp:=G hhp;clear hR o2 h63 hm
  by_cases he:er=0
  ·rw [if_pos he]
   have t1:(er==0)=true:=by simp [he]
   subst he
   go_enter func92,ntmps92
   go_wp2_with fail
   refine(his.out _ hB).mono ?_;rintro e w1⟨rfl,hw1⟩;obtain rfl:=hw1.symm;go_wp2_with fail
   refine(hch.out _).mono ?_;rintro e w2⟨rfl,hb2⟩;have e2:=(hB.call hb2).cell;obtain⟨f2,l2,hs2,hF2⟩:=hwr.out w2 hb2 cs;have d2:=(hb2.cell (p:=⟨g,k*3+2,none⟩) lg).trans c2;clear e0 c2;go_wp2;go_ret
   exact⟨rfl,ow,(zq.of_below t ow hb2).trans hs2,hF2⟩
  ·rw [if_neg he]
   have t1:(er==0)=false:=by simp [he]
   replace he:=G he
   go_enter func92,ntmps92
   go_wp2_with fail
   refine(his.out _ hB).mono ?_;rintro e w1⟨rfl,hw1⟩;obtain rfl:=hw1.symm;go_wp2_with fail
   refine(hch.out _).mono ?_;rintro e w2⟨rfl,hb2⟩;go_wp2;go_ret
   exact⟨rfl,ow,zq.of_below t ow hb2,(jk.loc B last notes t).below h0.out hb2⟩
 ·have hhp:zbE notes p bit mask=(notes,2):=by
   unfold zbE
   split
   ·rfl
   ·rw [List.getElem?_eq_none (by omega)]
  rw [hhp];have hb:(decide (0<=p)&& decide (p<(notes.length:Int)))=false:=by simpa using hp
  rw [hb] at his;replace his:=G his;replace hb:=G hb;replace hhp:=G hhp;replace h0:=G h0;clear hR o2 h63 hm
  go_enter func92,ntmps92
  go_wp2_with fail
  refine(his.out _ hB).mono ?_;rintro e w1⟨rfl,hw1⟩;obtain rfl:=hw1.symm;go_wp2;go_ret
  exact⟨rfl,ow,zq.refl _ _ _,h0.out⟩
def zL(v:jn):List Value:=[.int .u64 (v.1:Nat),.int .u64 (v.2.1:Nat),.string (bs v.2.2)]
theorem J2(l:List jn):(l.flatMap zL).length=l.length*3:=by
 induction l with
 |nil=>rfl
 |cons m l ih=>simp [List.flatMap_cons,zL,ih];omega
def zE(pv:Value)(l:qv):List Value:=
 [.int .i64 l.inst,.int .u64 (l.ballot:Nat),.string (bs l.value),pv] ++(l.promised.map Value.bool++(l.voted.map Value.bool++ [.int .i64 (l.votes:Nat),.bool l.asked,.bool l.told]))
def J3(B:Nat)(l:qv)(t:List Nat)(ow:Own)(W:World):Prop:=
 l.promised.length=16/\l.voted.length=16/\∃pv,Blk W B (zE pv l).toArray 152/\Row W 272 3 pv l.promises.length (l.promises.flatMap zL)/\ow B=t/\∀g,pv.ownBlock=some g->ow g=t
theorem J3.loc(B:Nat)(l:qv)(t:List Nat):yH t (J3 B l t):=by
 rintro ow ow' W W'⟨h1,h2,lv,hB,hR,o1,o2⟩ hs hk;have kB:=hk B hB.lt (by rw [o1];exact Sub.rfl' t);have kR:∀g,lv.ownBlock=some g->ow' g=ow g/\W'.heap[g]?=W.heap[g]?:=λg hg=>hk g (hR.lt hg) (by rw [o2 g hg];exact Sub.rfl' t)
 exact⟨h1,h2,lv,hB.kept kB.2,hR.kept (λg hg=>(kR g hg).2),kB.1.trans o1,λg hg=>(kR g hg).1.trans (o2 g hg)⟩
def jU(s:xU):List Value:=[.int .u64 (s.greatest:Nat),.int .i64 (s.accepted:Nat),.int .i64 (s.delivered:Nat),.bool s.stale,.bool s.lent]
def jr(h:zb8):List Value:=[.int .i64 h.1,.int .i64 h.2.1,.int .i64 h.2.2.1.1,.int .u32 (h.2.2.1.2:Nat),.string (bs h.2.2.2)]
structure WK where
 fb:Nat
 lm:Nat
 hm:Nat
 dm:Nat
 bx:Nat
 nb:Nat
 nc:Nat
 sb:Nat
 nl:List Nat
def Yx(i:Int):Value:=.agg #[.int .i64 i]
def Qw(k:Nat):Value:=.int .u32 k
def zfI(k:Int):Value:=.int .i64 k
def Yy(bx:Nat):List (Int×Value):=[(1,.func (.func 49) #[] #[.pointer (some ⟨bx,0,none⟩)]),(2,.func (.func 51) #[] #[.pointer (some ⟨bx,0,none⟩)]),(3,.func (.func 53) #[] #[.pointer (some ⟨bx,0,none⟩)]),(4,.func (.func 55) #[] #[.pointer (some ⟨bx,0,none⟩)]),(5,.func (.func 57) #[] #[.pointer (some ⟨bx,0,none⟩)]),(6,.func (.func 59) #[] #[.pointer (some ⟨bx,0,none⟩)]),(7,.func (.func 61) #[] #[.pointer (some ⟨bx,0,none⟩)]),(8,.func (.func 63) #[] #[.pointer (some ⟨bx,0,none⟩)]),(9,.func (.func 65) #[] #[.pointer (some ⟨bx,0,none⟩)]),(10,.func (.func 67) #[] #[.pointer (some ⟨bx,0,none⟩)])]
def vk(l:List Nat):List Value:=l.map λb=>.pointer (some ⟨b,0,none⟩)
def vN(B:Nat)(K:WK)(tv:Value)(lp:Nat->Option Nat)(S:zj)(t:List Nat)(i:Nat):Own->World->Prop:=
 if i<16 then λow W=>∀m,S.nodes[i]?=some m->∃b,K.nl[i]?=some b/\jv b m (t++ [i]) ow W
 else if i=16 then jk K.fb S.last S.notes (t++ [i])
 else if i=17 then λow W=>ow K.lm=t++ [i] /\∃ps:List (Int×Value),(ps.map (·.1)).Nodup/\zU W K.lm Yx ps/\∀j:Nat,zJ (j:Int) ps=(lp j).map λb=>.pointer (some ⟨b,0,none⟩)
 else if i=18 then λow W=>ow K.hm=t++ [i] /\zU W K.hm Qw (S.hurt.map λq=>(q.1,yO))
 else if i=19 then λow W=>ow K.dm=t++ [i] /\ow K.bx=t++ [i] /\zU W K.dm zfI (Yy K.bx)/\Blk W K.bx #[.pointer (some ⟨B,0,none⟩)] 24
 else if i=20 then λow W=>ow K.nb=t++ [i] /\K.nl.length=S.nodes.length/\Row W 48 1 (.slice (some ⟨K.nb,0,none⟩) S.nodes.length K.nc) S.nodes.length (vk K.nl)
 else if i=21 then λow W=>ow K.sb=t++ [i] /\S.seats.length=S.nodes.length/\Blk W K.sb (S.seats.flatMap jU).toArray 86
 else if i=22 then λow W=>(∀g,tv.ownBlock=some g->ow g=t++ [i])/\Row W 36 5 tv S.trace.length (S.trace.flatMap jr)
 else if i<32 then λ_ _=>True
 else λow W=>match lp (i - 32),zJ ((i - 32:Nat):Int) S.leads with
  |none,none=>True
  |some b,some l=>J3 b l (t++ [i]) ow W
  |_,_=>False
theorem Zo(B:Nat)(K:WK)(tv:Value)(lp:Nat->Option Nat)(S:zj)(t:List Nat)(i:Nat):yH (t++ [i]) (vN B K tv lp S t i):=by
 have kk:∀ {ow ow':Own} {W W':World},(∀k,k<W.heap.size->Sub (t++ [i]) (ow k)->ow' k=ow k/\W'.heap[k]?=W.heap[k]?)->∀k,k<W.heap.size->ow k=t++ [i] ->ow' k=ow k/\W'.heap[k]?=W.heap[k]?:=λhk k h1 h2=>hk k h1 (by rw [h2];exact Sub.rfl' _)
 unfold vN
 split
 ·intro ow ow' W W' h hs hk m hm
  obtain⟨b,hb,hN⟩:=h m hm;exact⟨b,hb,jv.loc b m _ _ _ _ _ hN hs hk⟩
 split
 ·exact jk.loc _ _ _ _
 split
 ·intro ow ow' W W' ⟨o,ps,hd,hM,hl⟩ hs hk
  have:=kk hk _ hM.lt o;exact⟨this.1.trans o,ps,hd,hM.kept this.2,hl⟩
 split
 ·intro ow ow' W W' ⟨o,hM⟩ hs hk
  have:=kk hk _ hM.lt o;exact⟨this.1.trans o,hM.kept this.2⟩
 split
 ·intro ow ow' W W' ⟨o,o2,hM,hB⟩ hs hk
  have k1:=kk hk _ hM.lt o;have k2:=kk hk _ hB.lt o2;exact⟨k1.1.trans o,k2.1.trans o2,hM.kept k1.2,hB.kept k2.2⟩
 split
 ·intro ow ow' W W' ⟨o,hl,hR⟩ hs hk
  have k1:=kk hk _ (hR.lt (g:=K.nb) rfl) o;exact⟨k1.1.trans o,hl,hR.kept (λg hg=>by cases hg;exact k1.2)⟩
 split
 ·intro ow ow' W W' ⟨o,hl,hB⟩ hs hk
  have k1:=kk hk _ hB.lt o;exact⟨k1.1.trans o,hl,hB.kept k1.2⟩
 split
 ·intro ow ow' W W' ⟨o,hR⟩ hs hk
  exact⟨λg hg=>(kk hk g (hR.lt hg) (o g hg)).1.trans (o g hg),hR.kept (λg hg=>(kk hk g (hR.lt hg) (o g hg)).2)⟩
 split
 ·intro ow ow' W W' h hs hk;trivial
 ·cases h1:lp (i - 32)<;>cases h2:zJ ((i - 32:Nat):Int) S.leads
  ·intro ow ow' W W' h hs hk;trivial
  ·intro ow ow' W W' h hs hk;exact h
  ·intro ow ow' W W' h hs hk;exact h
  ·exact J3.loc _ _ _
structure zk(B:Nat)(K:WK)(tv:Value)(lp:Nat->Option Nat)(S:zj)(t:List Nat)(ow:Own)(W:World):Prop where
 blk:Blk W B #[.slice (some ⟨K.nb,0,none⟩) S.nodes.length K.nc,.slice (some ⟨K.sb,0,none⟩) S.nodes.length S.nodes.length,.map (some K.lm),.pointer (some ⟨K.fb,0,none⟩),.map (some K.hm),.map (some K.dm),tv] 72
 own:ow B=t
 part:∀i,vN B K tv lp S t i ow W
theorem zk.loc(B:Nat)(K:WK)(tv:Value)(lp:Nat->Option Nat)(S:zj)(t:List Nat):yH t (zk B K tv lp S t):=by
 intro ow ow' W W' h hs hk;have kB:=hk B h.blk.lt (by rw [h.own];exact Sub.rfl' t);exact⟨h.blk.kept kB.2,kB.1.trans h.own,λi=>Zo B K tv lp S t i _ _ _ _ (h.part i) hs (λk a b=>hk k a ((Sub.child t i).trans b))⟩
def zy(B:Nat)(K:WK)(S:zj)(t:List Nat)(ow:Own)(W:World):Prop:=∃tv lp,zk B K tv lp S t ow W
theorem zy.loc(B:Nat)(K:WK)(S:zj)(t:List Nat):yH t (zy B K S t):=by
 rintro ow ow' W W'⟨tv,lp,h⟩ hs hk;exact⟨tv,lp,zk.loc B K tv lp S t _ _ _ _ h hs hk⟩
def vi(B:Nat)(K:WK)(S:zj)(t:List Nat)(ow:Own)(w:World)(v:Value)(e:Ending)(w':World):Prop:=
 e=.returned v/\∃ow',zq t ow w ow' w'/\zy B K S t ow' w'
variable {B:Nat}{K:WK}{tv tv':Value}{lp lp':Nat->Option Nat}{S S':zj}{t:List Nat}{ow ow':Own}{W W':World}
theorem zk.setPart(h:zk B K tv lp S t ow W)(i:Nat)(hs:zq (t++ [i]) ow W ow' W')(hn:S'.nodes.length=S.nodes.length)(he:∀j,j≠i->vN B K tv lp' S' t j=vN B K tv lp S t j)(hi:vN B K tv lp' S' t i ow' W'):zk B K tv lp' S' t ow' W':=
 ⟨by rw [hn];exact h.blk.kept (hs.block h.blk.lt (qu t i h.own)),(hs.agree B h.blk.lt).trans h.own,λj=>by
  by_cases hj:j=i
  ·rw [hj];exact hi
  ·rw [he j hj];exact(Zo B K tv lp S t j).step (h.part j) hs (zM t (Ne.symm hj))⟩
theorem zk.node(h:zk B K tv lp S t ow W){i:Nat}{m:zv}(hi:i<16)(hm:S.nodes[i]?=some m):∃b,K.nl[i]?=some b/\jv b m (t++ [i]) ow W:=by
 have:=h.part i;unfold vN at this;rw [if_pos hi] at this;exact this m hm
theorem zk.flight(h:zk B K tv lp S t ow W):jk K.fb S.last S.notes (t++ [16]) ow W:=h.part 16
theorem zk.leadsM(h:zk B K tv lp S t ow W):ow K.lm=t++ [17] /\∃ps:List (Int×Value),(ps.map (·.1)).Nodup/\zU W K.lm Yx ps/\∀j:Nat,zJ (j:Int) ps=(lp j).map λb=>.pointer (some ⟨b,0,none⟩):=h.part 17
theorem zk.hurtM(h:zk B K tv lp S t ow W):ow K.hm=t++ [18] /\zU W K.hm Qw (S.hurt.map λq=>(q.1,yO)):=h.part 18
theorem zk.does(h:zk B K tv lp S t ow W):ow K.dm=t++ [19] /\ow K.bx=t++ [19] /\zU W K.dm zfI (Yy K.bx)/\Blk W K.bx #[.pointer (some ⟨B,0,none⟩)] 24:=h.part 19
theorem zk.nrow(h:zk B K tv lp S t ow W):ow K.nb=t++ [20] /\K.nl.length=S.nodes.length/\Row W 48 1 (.slice (some ⟨K.nb,0,none⟩) S.nodes.length K.nc) S.nodes.length (vk K.nl):=h.part 20
theorem zk.srow(h:zk B K tv lp S t ow W):ow K.sb=t++ [21] /\S.seats.length=S.nodes.length/\Blk W K.sb (S.seats.flatMap jU).toArray 86:=h.part 21
theorem zk.trow(h:zk B K tv lp S t ow W):(∀g,tv.ownBlock=some g->ow g=t++ [22])/\Row W 36 5 tv S.trace.length (S.trace.flatMap jr):=h.part 22
theorem zk.lead(h:zk B K tv lp S t ow W)(i:Nat):match lp i,zJ (i:Int) S.leads with
 |none,none=>True
 |some b,some l=>J3 b l (t++ [i+32]) ow W
 |_,_=>False:=by
 have:=h.part (i+32);unfold vN at this;rw [if_neg (by omega),if_neg (by omega),if_neg (by omega),if_neg (by omega),if_neg (by omega),if_neg (by omega),if_neg (by omega),if_neg (by omega),if_neg (by omega),Nat.add_sub_cancel] at this;exact this
theorem zk.setNode(h:zk B K tv lp S t ow W){i b:Nat}{m:zv}(hi:i<16)(hb:K.nl[i]?=some b)(hs:zq (t++ [i]) ow W ow' W')(hN:jv b m (t++ [i]) ow' W'):zk B K tv lp (setNode S i m) t ow' W':=by
 refine h.setPart i hs (by simp [Go.Proofs.YtobnhnidffipjaaGreatDoor.setNode]) (λj hj=>?_) ?_
 ·unfold vN Go.Proofs.YtobnhnidffipjaaGreatDoor.setNode
  simp only [List.getElem?_set_ne (Ne.symm hj),List.length_set]
 ·unfold vN Go.Proofs.YtobnhnidffipjaaGreatDoor.setNode
  rw [if_pos hi];intro m' hm'
  have hl:i<S.nodes.length:=by
   have:=(N6.1 hm').1
   simpa using this
  simp only [List.getElem?_set_self hl,Option.some.injEq] at hm';subst hm';exact⟨b,hb,hN⟩
theorem zk.setFlight(h:zk B K tv lp S t ow W){last:Nat}{notes:List zhk}(hs:zq (t++ [16]) ow W ow' W')(hN:jk K.fb last notes (t++ [16]) ow' W'):zk B K tv lp {S with last:=last,notes:=notes} t ow' W':=by
 refine h.setPart 16 hs rfl (λj hj=>?_) hN;unfold vN;simp only [if_neg hj]
