/- PARTS OF THE PROOF. -/
import Derived.Laws.Concat
import Derived.Test.YtofppfoioodblaaGreatDoorTT03
import Derived.Test.YtofppfoioodblaaGreatDoorTT04
import Derived.Test.YtofppfoioodblaaGreatDoorTT05
import Derived.Test.YtofppfoioodblaaGreatDoorTT11
import Derived.Test.YtofppfoioodblaaGreatDoorTT12
set_option maxRecDepth 8000
set_option maxHeartbeats 4000000
open Go.Proofs.Tryz
namespace Go.Proofs.YtofppfoioodblaaGreatDoor
open Go Go.RowKit Go.Shelf Go.Extern.Stop Go.Stop Go.Extern
attribute [local go_sem] Oper.semAt_some zv zm
theorem ziI(s:Nat)(hs:s<4294967296)(b:UInt8)(w:World):Calls prog 298 #[.int .u32 s,.int .u8 (b.toNat:Int)] w λe w'=>e=.returned (.int .u32 (vx s b:Nat))/\w'=w:=by
 have hb:=b.toNat_lt;have hx:s ^^^ b.toNat<4294967296:=Nat.xor_lt_two_pow (n:=32) (by omega) (by omega);have h0:=qc s b.toNat hs (by omega);have hwr:IntKind.u32.wrap (b.toNat:Int)=(b.toNat:Int):=by rw [IntKind.wrap_u32];omega
 unfold vx
 generalize s ^^^ b.toNat=q at*
 generalize b.toNat=bn at*
 go_enter func298,ntmps298
 go_wp2
 go_loopw [0,10] (λp0 p10 W=>∃k:Nat,k<=8/\p10=.int .i64 k/\p0=.int .u32 (Zd k q:Nat)/\W=w) (λ_ p10 _=>8 - (intOf p10).toNat)
 case atStart=>exact⟨0,by omega,rfl,by first|rfl|simp [Zd],rfl⟩
 case round=>
  obtain⟨k,hk,rfl,rfl,rfl⟩:=hrel;have hlt:=Yk k hx;have hsucc:=YP k q;have hrd:=zeN hlt
  by_cases h8:k<8
  ·generalize Zd k q=s' at*
   replace hsucc:=hid hsucc;replace h0:=hid h0;replace hrd:=hid hrd;go_wp2
   go_roundw
   case rel=>exact⟨k+1,by omega,by go_num,by rw [hrd.out,hsucc.out],by first|exact rfl|exact trivial⟩
   case measure=>simp [intOf];omega
  ·have hk8:k=8:=by omega
   subst hk8;go_wp2;go_ret
   exact⟨rfl,rfl⟩
theorem zdT(s:ByteArray)(w:World):Calls prog 208 #[.string s] w λe w'=>
 e=.returned (.func (.func 256) #[] #[.pointer (some ⟨w.heap.size,0,none⟩)])/\w'=w.alloc (.cells #[.string s] 9):=by
 go_enter func208,ntmps208
 go_wp2;go_ret
 exact⟨rfl,rfl⟩
theorem zaY(cb:Nat)(l:List UInt8)(hlen:l.length<=1073741824):
 XG Fence.wide 2 prog 256 #[.pointer (some ⟨cb,0,none⟩)] (λx:Nat×UInt8=> #[.int .i64 (x.1:Nat),.int .u8 (x.2.toNat:Nat)])
  (λ(k:Nat) x=>l[k]?=some x.2/\x.1=k) (λk _=>k+1) (λk=>k=l.length)
  (λ_ W=>Blk W cb #[.string (bs l)] 9) 0:=by
 intro lp J Jx W hJ hJx hRd hY h0;have r0:=hRd _ _ _ h0;have e0:=r0.cell;have hF:Fence.wide.fn 256:=trivial;have hro:Fence.wide.round=none:=rfl;have hsz:=zJ l;clear r0;refine callsIn_of_wp func256 rfl hF ?_ hro;simp only [ntmps256,R8,Nat.reduceAdd,Nat.reduceSub]
 gi_wp2
 gi_loopw [6] (λp wr=>∃(k:Nat)(X:Nat->Prop),p=.int .i64 (k:Int)/\k<=l.length/\J k X wr) (λp _=>l.length - (intOf p).toNat)
 case atStart=>exact⟨0,_,rfl,Nat.zero_le _,h0⟩
 case round=>
  obtain⟨k,X,rfl,hk,hJs⟩:=hrel;clear e0
  by_cases hlt:k<l.length
  ·have hks:k<(bs l).size:=by rw [hsz];exact hlt
   have hx:l[k]?=some ((bs l)[k]):=by
    rw [N3 hlt]
    congr 1
   have e1:=(hRd _ _ _ hJs).cell;obtain⟨fn,tmps,assign,body,hy,hR⟩:=hY k (k,(bs l)[k]) X wr hJs ⟨hx,rfl⟩;simp only at hy;clear hx
   gi_wp2
   refine hR.mono ?_;rintro e W'(⟨rfl,hJ', -⟩|⟨rfl,hx'⟩)
   ·clear e1 hR hy
    gi_wp2
    go_roundw
    case rel=>exact⟨k+1,_,by go_num,by omega,hJ'⟩
    case measure=>simp [intOf];omega
   ·gi_wp2
    refine bodyPost_ret (results_none rfl _ _ _) rfl ?_;exact⟨⟨_,rfl⟩,.inr ⟨_,hx'⟩⟩
  ·obtain rfl:k=l.length:=by omega
   gi_wp2
   go_end0
   exact⟨⟨_,rfl⟩,.inl ⟨l.length,X,rfl,hJs⟩⟩
def zkO(l:List UInt8)(s0:Nat)(pb:Nat)(W0:World)(k:Nat)(X:Nat->Prop)(W:World):Prop:=
 Fr (λk=>k=pb) W0 X W/\Blk W pb #[.int .u32 ((l.take k).foldl vx s0:Nat)] 35
theorem ziJ(s:Nat)(hs:s<4294967296)(l:List UInt8)(hl:l.length<=1073741824)(w:World):Calls prog 242 #[.int .u32 s,.string (bs l)] w λe w'=>
 e=.returned (.int .u32 (4294967295 - l.foldl vx (4294967295 - s):Nat))/\Below w.heap.size w w':=by
 have hx:=zgS s hs;obtain⟨s0,hs0⟩:∃s0,4294967295 - s=s0:=⟨_,rfl⟩;rw [hs0] at hx⊢;have hs0':s0<4294967296:=by omega
 replace hs0:=hid hs0;refine zl func242 rfl ?_;simp only [ntmps242,R8,Nat.reduceAdd,Nat.reduceSub];go_wp2_with fail
 refine(zdT _ _).mono ?_;rintro e w1⟨rfl,rfl⟩;go_wp2_with fail
 obtain⟨W0,hW0⟩:∃W0,W0=((w.alloc (.cells #[.int .u32 (s0:Int)] 35)).alloc (.cells #[.string (bs l)] 9)):=⟨_,rfl⟩;have hb0:Below w.heap.size w W0:=by rw [hW0];exact pbx
 have hsz:W0.heap.size=w.heap.size+2:=by rw [hW0];simp
 have kp:Blk W0 w.heap.size #[.int .u32 (s0:Int)] 35:=by rw [hW0];exact bkx
 have kc:Blk W0 (w.heap.size+1) #[.string (bs l)] 9:=by rw [hW0];exact Blk.new (by simp)
 rw [← hW0];clear hW0 hx
 refine yT (gf:=256) (lb:=#[.pointer (some ⟨w.heap.size+1,0,none⟩)]) rfl (enters_of func256 (by kernel_rfl) rfl)
  (zaY (w.heap.size+1) l hl) (λ_=>rfl)
  (λk X W=>zkO l s0 w.heap.size W0 k X W) (λc X W=>False)
  (λk X X' W W' h hm hx=>⟨h.1.step hm hx,h.2.kept (h.1.block hm (by omega))⟩)
  (λc s X X' W W' h hm hx=>h)
  (λk X W h=>kc.mod h.1.2 (by omega))
  ⟨Fr.refl _ _,kp⟩
  (λx=>[(6,.int .u8 (x.2.toNat:Int))]) ?assign ?body ?done ?stop
 case assign=>
  intro l' x W K hK;rw [vB] at hK⊢
  gi_wp2
  exact hK
 case body=>
  rintro l' k⟨q,x⟩ X W⟨hfr,kb⟩⟨hx,rfl⟩ hXl _;rw [vB];have hkl:=(N6.1 hx).1;have hlt:=Yl (l.take q) hs0';have htk:(l.take (q+1)).foldl vx s0=vx ((l.take q).foldl vx s0) x:=by rw [List.take_add_one,hx];simp [List.foldl_append]
  have e0:=kb.cell;have f0:=kb.frozen;have l0:=kb.lt
  generalize(l.take q).foldl vx s0=s' at*
  replace htk:=hid htk;replace hx:=hid hx
  gi_wp2_with (gi_at_call 298;refine(inRound _ _ (ziI s' hlt x _)).mono ?_;rintro e w1 ⟨rfl,rfl⟩)
  have hm:Mod (λk=>k=w.heap.size) w1 (w1.setCell ⟨w.heap.size,0,none⟩ (.int .u32 (vx s' x:Nat))):=Mod.setCell w1 _ _ rfl;exact⟨⟨hfr.mod hm (λk _ h=>h),by rw [htk.out];exact kb.set _⟩,jB.of_mod hm (λk _ hX he=>by have:=hfr.1 k hX;omega)⟩
 case done=>
  rintro D k X W hD hXD hfin⟨hfr,kb⟩ hdef;obtain rfl:k=l.length:=hfin;rw [List.take_length] at kb;have hlt:=Yl l hs0';have hn:=zgS _ hlt;have e0:=kb.cell;have hbW:Below w.heap.size w W:=hb0.trans (hfr.below (by omega) (λk h=>by omega));obtain⟨s',hs'⟩:∃s',l.foldl vx s0=s':=⟨_,rfl⟩;rw [hs'] at e0 hn;replace hs':=hid hs';go_wp2;exact z8 (D:=D) (v:=.int .u32 (4294967295 - s':Nat)) hdef (by simp [results,Tryz.results242,go_sem]) ⟨by rw [hs'.out],zN hbW (by omega) _⟩
 case stop=>rintro D c X W hD hXD h;exact h.elim
theorem zgT(l:List UInt8)(hl:l.length<=1073741824)(w:World):Calls prog 193 #[.string (bs l)] w λe w'=>e=.returned (.int .u32 (zgD l:Nat))/\Below w.heap.size w w':=by
 have hm:=λW=>ziJ 0 (by omega) l hl W
 have hc:4294967295 - l.foldl vx (4294967295 - 0)=zgD l:=rfl;rw [hc] at hm;replace hm:=hid hm;clear hc
 go_enter func193,ntmps193
 go_wp2_with fail
 refine(hm.out _).mono ?_;rintro e w1⟨rfl,hb1⟩;go_wp2;go_ret
 exact⟨rfl,hb1⟩
theorem ZR(a b:List UInt8)(h:a.length+b.length<=9223372036854775807)(w:World):(Op.stringOp .add (bs a) (bs b)).run prog w=.ok (.string (bs (a++b))) w:=by
 rw [run_string_add_sum w (bs a) (bs b) (by rw [zJ,zJ];exact h),zkA]
theorem zdU(l:List UInt8)(hl:l.length<=1073741823)(w:World):Calls prog 241 #[.string (bs l)] w λe w'=>e=.returned (.string (bs (qB l)))/\Below w.heap.size w w':=by
 have hadd:=ZR l (le4 (zgD l)) (by rw [zY];omega)
 go_enter func241,ntmps241
 go_wp2_with fail
 refine(zgT l (by omega) _).mono ?_;rintro e w1⟨rfl,hb1⟩;go_wp2_with fail
 refine(yI _ _).mono ?_;rintro e w2⟨rfl,hb2⟩;go_wp2;go_ret
 exact⟨rfl,zg hb1 hb2⟩
theorem zdV(a b:List UInt8):((bs a).toList==(bs b).toList)=decide (a=b):=by
 rw [yC,yC]
 by_cases h:a=b
 ·simp [h]
 ·simp [h]
def zcB(r:Option (List UInt8)):Value:=match r with|none=>.tuple #[.string ⟨#[]⟩,.bool false] |some b=>.tuple #[.string (bs b),.bool true]
theorem QV(l:List UInt8)(hl:l.length<=1073741824)(w:World):Calls prog 147 #[.string (bs l)] w λe w'=>e=.returned (zcB (xA l))/\Below w.heap.size w w':=by
 have hsz:=zJ l
 by_cases h4:l.length<4
 ·have ho:xA l=none:=by unfold xA;rw [if_pos h4]
  rw [ho];have t0:decide (((bs l).size:Int)<4)=true:=by rw [hsz];simp;omega
  replace hsz:=hid hsz
  go_enter func147,ntmps147
  go_wp2;go_ret2
  exact⟨rfl,N2 _ _⟩
 ·have t0:decide (((bs l).size:Int)<4)=false:=by rw [hsz];simp;omega
  have ho:xA l=if l.drop (l.length - 4)=le4 (zgD (l.take (l.length - 4)))then some (l.take (l.length - 4))else none:=by unfold xA;rw [if_neg h4]
  have hex:=vA l (l.length - 4);have hdx:(bs l).extract (l.length - 4) l.length=bs (l.drop (l.length - 4)):=by have:=jk l (l.length - 4);rwa [hsz] at this
  have htl:(l.take (l.length - 4)).length=l.length - 4:=by simp
  have hsz2:=zJ (l.take (l.length - 4));rw [htl] at hsz2;have hwr:(((l.length:Int) - 4).toNat)=l.length - 4:=by omega
  have y0:(4:Int)<=(l.length:Int):=by omega
  have y1:(l.length:Int)<=1073741824:=by omega
  generalize l.take (l.length - 4)=body at*
  generalize l.drop (l.length - 4)=tail at*
  have hsum:=λW=>zgT body (by omega) W
  replace hsum:=hid hsum;have hq:=zdV tail (le4 (zgD body))
  by_cases heq:tail=le4 (zgD body)
  ·rw [show zcB (xA l)=.tuple #[.string (bs body),.bool true] by rw [ho,if_pos heq];rfl]
   rw [show decide (tail=le4 (zgD body))=true by simpa using heq] at hq;replace ho:=hid ho;replace heq:=hid heq;rw [← hsz] at*
   go_enter func147,ntmps147
   go_wp2_with fail
   refine zd [O 0,O 1,O 2,O 3,O 4,E 5,E 6,O 7] none (λw'=>True) (by kernel_rfl) (by kernel_rfl) trivial ?_
   (repeat (refine za (v:=?_) rfl rfl (λw' h=>?_) (λK k=>?_);rotate_left;obtain⟨f1,f2,f3,f4,f5,_⟩:=h;(try have e1:=f1.cell);(try have e2:=f2.cell);(try have e3:=f3.cell);(try have e4:=f4.cell);(try have e5:=f5.cell);go_simp;(try with_reducible rfl);go_simp;refine k _ ?_;clear k K))
   refine zc rfl (λK hK=>?_);go_wp2_with fail
   refine(hsum.out _).mono ?_;rintro e w1⟨rfl,hb1⟩;go_wp2;refine hK.out _ _ (λ_=>trivial) ?_;clear hK K;refine zc rfl (λK hK=>?_);go_wp2_with fail
   refine(yI _ _).mono ?_;rintro e w2⟨rfl,hb2⟩;go_wp2;refine hK.out _ _ (λ_=>trivial) ?_;clear hK K;have hbw:Below w.heap.size w w2:=zg (zg (zo (N2 _ _)) hb1) hb2
   (repeat (refine za (v:=?_) rfl rfl (λw' h=>?_) (λK k=>?_);rotate_left;obtain⟨f1,f2,f3,f4,f5,_⟩:=h;(try have e1:=f1.cell);(try have e2:=f2.cell);(try have e3:=f3.cell);(try have e4:=f4.cell);(try have e5:=f5.cell);go_simp;(try with_reducible rfl);go_simp;refine k _ ?_;clear k K))
   refine ze ?_;go_wp2;go_ret2
   exact⟨rfl,hbw⟩
  ·rw [show zcB (xA l)=.tuple #[.string ⟨#[]⟩,.bool false] by rw [ho,if_neg heq];rfl]
   rw [show decide (tail=le4 (zgD body))=false by simpa using heq] at hq;replace ho:=hid ho;replace heq:=hid heq;rw [← hsz] at*
   go_enter func147,ntmps147
   go_wp2_with fail
   refine zd [O 0,O 1,O 2,O 3,O 4,E 5,E 6,O 7] none (λw'=>True) (by kernel_rfl) (by kernel_rfl) trivial ?_
   (repeat (refine za (v:=?_) rfl rfl (λw' h=>?_) (λK k=>?_);rotate_left;obtain⟨f1,f2,f3,f4,f5,_⟩:=h;(try have e1:=f1.cell);(try have e2:=f2.cell);(try have e3:=f3.cell);(try have e4:=f4.cell);(try have e5:=f5.cell);go_simp;(try with_reducible rfl);go_simp;refine k _ ?_;clear k K))
   refine zc rfl (λK hK=>?_);go_wp2_with fail
   refine(hsum.out _).mono ?_;rintro e w1⟨rfl,hb1⟩;go_wp2;refine hK.out _ _ (λ_=>trivial) ?_;clear hK K;refine zc rfl (λK hK=>?_);go_wp2_with fail
   refine(yI _ _).mono ?_;rintro e w2⟨rfl,hb2⟩;go_wp2;refine hK.out _ _ (λ_=>trivial) ?_;clear hK K;have hbw:Below w.heap.size w w2:=zg (zg (zo (N2 _ _)) hb1) hb2
   (repeat (refine za (v:=?_) rfl rfl (λw' h=>?_) (λK k=>?_);rotate_left;obtain⟨f1,f2,f3,f4,f5,_⟩:=h;(try have e1:=f1.cell);(try have e2:=f2.cell);(try have e3:=f3.cell);(try have e4:=f4.cell);(try have e5:=f5.cell);go_simp;(try with_reducible rfl);go_simp;refine k _ ?_;clear k K))
   refine ze ?_;go_wp2;go_ret2
   exact⟨rfl,hbw⟩
def zjZ(l:List UInt8):Value:=.tuple #[.int .u32 (yn l:Nat),.int .i64 (if l.length=4 then 0 else 2)]
def Ya(l:List UInt8):Nat:=l.foldr (λb n=>b.toNat+256*n) 0
theorem zgU(l:List UInt8)(b:UInt8):Ya (l++ [b])=Ya l+256 ^ l.length*b.toNat:=by
 induction l with
 |nil=>simp [Ya]
 |cons x l ih=>
  have h1:Ya (x::l++ [b])=x.toNat+256*Ya (l++ [b]):=rfl;have h2:Ya (x::l)=x.toNat+256*Ya l:=rfl;rw [h1,h2,ih,List.length_cons,Nat.pow_succ,Nat.mul_add];rw [Nat.add_assoc,Nat.mul_comm (256 ^ l.length) 256,Nat.mul_assoc]
theorem zcC(l:List UInt8):Ya l<256 ^ l.length:=by
 induction l with
 |nil=>simp [Ya]
 |cons x l ih=>
  have h2:Ya (x::l)=x.toNat+256*Ya l:=rfl;have:=x.toNat_lt;rw [h2,List.length_cons,Nat.pow_succ];omega
theorem zdW(s x i:Nat)(hs:s<2 ^ i)(hx:x<256)(hi:i<=24):bits .or .u32 (s:Int) (IntKind.u32.wrap ((x:Int)*((2 ^ i:Nat):Int)))=((s+2 ^ i*x:Nat):Int):=by
 have h1:2 ^ i<=2 ^ 24:=Nat.pow_le_pow_right (by decide) hi;have h2:x*2 ^ i<=255*2 ^ 24:=Nat.mul_le_mul (by omega) h1
 have h3:IntKind.u32.wrap ((x:Int)*((2 ^ i:Nat):Int))=((x*2 ^ i:Nat):Int):=by
  rw [IntKind.wrap_u32,← Int.natCast_mul];omega
 have h4:=Nat.two_pow_add_eq_or_of_lt hs x;rw [h3,zcA s _ (by omega) (by omega),Nat.mul_comm x,Nat.add_comm,h4,Nat.or_comm]
def zlc(l:List UInt8)(pb:Nat)(W0:World)(k:Nat)(X:Nat->Prop)(W:World):Prop:=
 Fr (λk=>k=pb) W0 X W/\Blk W pb #[.int .u32 (Ya (l.take k):Nat)] 35
theorem xQ(l:List UInt8)(hl:l.length<=1073741824)(w:World):Calls prog 198 #[.string (bs l)] w λe w'=>e=.returned (zjZ l)/\Below w.heap.size w w':=by
 have hsz:=zJ l;unfold zjZ yn
 by_cases h4:l.length=4
 ·rw [if_pos h4,if_pos h4]
  have t0:(((bs l).size:Int) !=4)=false:=by rw [hsz,h4];rfl
  replace hsz:=hid hsz;replace h4:=hid h4;refine zl func198 rfl ?_;simp only [ntmps198,R8,Nat.reduceAdd,Nat.reduceSub];go_wp2_with fail
  refine(zdT _ _).mono ?_;rintro e w1⟨rfl,rfl⟩;go_wp2_with fail
  obtain⟨W0,hW0⟩:∃W0,W0=((w.alloc (.cells #[.int .u32 0] 35)).alloc (.cells #[.string (bs l)] 9)):=⟨_,rfl⟩;have hb0:Below w.heap.size w W0:=by rw [hW0];exact pbx
  have hsz0:W0.heap.size=w.heap.size+2:=by rw [hW0];simp
  have kp:Blk W0 w.heap.size #[.int .u32 0] 35:=by rw [hW0];exact bkx
  have kc:Blk W0 (w.heap.size+1) #[.string (bs l)] 9:=by rw [hW0];exact Blk.new (by simp)
  rw [← hW0];clear hW0
  refine yT (gf:=256) (lb:=#[.pointer (some ⟨w.heap.size+1,0,none⟩)]) rfl (enters_of func256 (by kernel_rfl) rfl)
   (zaY (w.heap.size+1) l hl) (λ_=>rfl)
   (λk X W=>zlc l w.heap.size W0 k X W) (λc X W=>False)
   (λk X X' W W' h hm hx=>⟨h.1.step hm hx,h.2.kept (h.1.block hm (by omega))⟩)
   (λc s X X' W W' h hm hx=>h)
   (λk X W h=>kc.mod h.1.2 (by omega))
   ⟨Fr.refl _ _,kp⟩
   (λx=>[(5,.int .i64 (x.1:Int)),(6,.int .u8 (x.2.toNat:Int))]) ?assign ?body ?done ?stop
  case assign=>
   intro l' x W K hK;rw [vB] at hK⊢
   gi_wp2
   exact hK
  case body=>
   rintro l' k⟨q,x⟩ X W⟨hfr,kb⟩⟨hx,rfl⟩ hXl _;rw [vB];have hkl:=(N6.1 hx).1;have hlt:=zcC (l.take q)
   have htk:Ya (l.take (q+1))=Ya (l.take q)+256 ^ q*x.toNat:=by
    rw [List.take_add_one,hx]
    show Ya (l.take q++ [x])=_
    rw [zgU,N7,Nat.min_eq_left (by omega)]
   have hq4:q<4:=by have:=h4.out;omega
   have e0:=kb.cell
   rcases(by omega:q=0∨q=1∨q=2∨q=3)with rfl|rfl|rfl|rfl
   ·
     generalize Ya (l.take 0)=s' at*
     replace htk:=hid htk;replace hx:=hid hx;have hxl:=x.toNat_lt;have hw1:IntKind.u32.wrap (x.toNat:Int)=(x.toNat:Int):=by rw [IntKind.wrap_u32];omega
     gi_wp2_with fail
     refine jJ [O 0,O 1,O 2,O 3,O 4,O 5,O 6,E 7] (some 7) (λw'=>Blk w' w.heap.size #[.int .u32 s'] 35/\True) (by kernel_rfl) (by kernel_rfl) ⟨kb.drew,trivial⟩ ?_;clear e0;have hs2:s'<2 ^ 0:=by rw [N7,h4.out] at hlt;exact Nat.lt_of_lt_of_le hlt (by decide)
     have hor0:=zdW s' x.toNat 0 hs2 (by omega) (by omega);clear hs2
     have hor:bits .or .u32 (s':Int) (x.toNat:Int)=((s'+2 ^ 0*x.toNat:Nat):Int):=by
      have hp:((2 ^ 0:Nat):Int)=1:=by decide
      rw [hp] at hor0
      first
      |exact hor0
      |(rw [Int.mul_one,hw1] at hor0;exact hor0)
     clear hor0;replace hor:=hid hor;have hw2:IntKind.i64.wrap 0=0:=by decide
     (repeat (refine za (v:=?_) rfl rfl (λw' h=>?_) (λK k=>?_);rotate_left;obtain⟨f1,_⟩:=h;have e1:=f1.cell;go_simp;(try with_reducible rfl);go_simp;refine k _ ?_;clear k K))
     rw [hor.out];refine zc rfl (λK hK=>?_);have e1:=kb.drew.cell;have f1:=kb.drew.frozen;have l1:=kb.drew.lt;go_wp2;refine hK.out _ _ (λhh=>absurd rfl hh) ?_;clear hK;refine ze ?_;have hv:((s':Nat):Int)+(x.toNat:Int)=((Ya (l.take (0+1)):Nat):Int):=by rw [htk.out,(by decide:256 ^ 0=1)];omega
     rw [hv];have hm:Mod (λk=>k=w.heap.size) W (W.setCell ⟨w.heap.size,0,none⟩ (.int .u32 (Ya (l.take (0+1)):Nat))).drew:=(Mod.setCell (X:=λk=>k=w.heap.size) W _ _ rfl).trans (Mod.drew (λ_=>False) _) (λ_ _ h=>h) (λ_ _ h=>h.elim);exact⟨⟨hfr.mod hm (λk _ h=>h),(kb.set _).drew⟩,jB.of_mod hm (λk _ hX he=>by have:=hfr.1 k hX;omega)⟩
   ·
     generalize Ya (l.take 1)=s' at*
     replace htk:=hid htk;replace hx:=hid hx;have hxl:=x.toNat_lt;have hw1:IntKind.u32.wrap (x.toNat:Int)=(x.toNat:Int):=by rw [IntKind.wrap_u32];omega
     gi_wp2_with fail
     refine jJ [O 0,O 1,O 2,O 3,O 4,O 5,O 6,E 7] (some 7) (λw'=>Blk w' w.heap.size #[.int .u32 s'] 35/\True) (by kernel_rfl) (by kernel_rfl) ⟨kb.drew,trivial⟩ ?_;clear e0;have hs2:s'<2 ^ 8:=by rw [N7,h4.out] at hlt;exact Nat.lt_of_lt_of_le hlt (by decide)
     have hor0:=zdW s' x.toNat 8 hs2 (by omega) (by omega);clear hs2
     have hor:bits .or .u32 (s':Int) (IntKind.u32.wrap<|(x.toNat:Int)*256)=((s'+2 ^ 8*x.toNat:Nat):Int):=by
      have hp:((2 ^ 8:Nat):Int)=256:=by decide
      rw [hp] at hor0
      first
      |exact hor0
      |(rw [Int.mul_one,hw1] at hor0;exact hor0)
     clear hor0;replace hor:=hid hor;have hw2:IntKind.i64.wrap 8=8:=by decide
     (repeat (refine za (v:=?_) rfl rfl (λw' h=>?_) (λK k=>?_);rotate_left;obtain⟨f1,_⟩:=h;have e1:=f1.cell;go_simp;(try with_reducible rfl);go_simp;refine k _ ?_;clear k K))
     rw [hor.out];refine zc rfl (λK hK=>?_);have e1:=kb.drew.cell;have f1:=kb.drew.frozen;have l1:=kb.drew.lt;go_wp2;refine hK.out _ _ (λhh=>absurd rfl hh) ?_;clear hK;refine ze ?_;have hv:((s':Nat):Int)+256*(x.toNat:Int)=((Ya (l.take (1+1)):Nat):Int):=by rw [htk.out,(by decide:256 ^ 1=256)];omega
     rw [hv];have hm:Mod (λk=>k=w.heap.size) W (W.setCell ⟨w.heap.size,0,none⟩ (.int .u32 (Ya (l.take (1+1)):Nat))).drew:=(Mod.setCell (X:=λk=>k=w.heap.size) W _ _ rfl).trans (Mod.drew (λ_=>False) _) (λ_ _ h=>h) (λ_ _ h=>h.elim);exact⟨⟨hfr.mod hm (λk _ h=>h),(kb.set _).drew⟩,jB.of_mod hm (λk _ hX he=>by have:=hfr.1 k hX;omega)⟩
   ·
     generalize Ya (l.take 2)=s' at*
     replace htk:=hid htk;replace hx:=hid hx;have hxl:=x.toNat_lt;have hw1:IntKind.u32.wrap (x.toNat:Int)=(x.toNat:Int):=by rw [IntKind.wrap_u32];omega
     gi_wp2_with fail
     refine jJ [O 0,O 1,O 2,O 3,O 4,O 5,O 6,E 7] (some 7) (λw'=>Blk w' w.heap.size #[.int .u32 s'] 35/\True) (by kernel_rfl) (by kernel_rfl) ⟨kb.drew,trivial⟩ ?_;clear e0;have hs2:s'<2 ^ 16:=by rw [N7,h4.out] at hlt;exact Nat.lt_of_lt_of_le hlt (by decide)
     have hor0:=zdW s' x.toNat 16 hs2 (by omega) (by omega);clear hs2
     have hor:bits .or .u32 (s':Int) (IntKind.u32.wrap<|(x.toNat:Int)*65536)=((s'+2 ^ 16*x.toNat:Nat):Int):=by
      have hp:((2 ^ 16:Nat):Int)=65536:=by decide
      rw [hp] at hor0
      first
      |exact hor0
      |(rw [Int.mul_one,hw1] at hor0;exact hor0)
     clear hor0;replace hor:=hid hor;have hw2:IntKind.i64.wrap 16=16:=by decide
     (repeat (refine za (v:=?_) rfl rfl (λw' h=>?_) (λK k=>?_);rotate_left;obtain⟨f1,_⟩:=h;have e1:=f1.cell;go_simp;(try with_reducible rfl);go_simp;refine k _ ?_;clear k K))
     rw [hor.out];refine zc rfl (λK hK=>?_);have e1:=kb.drew.cell;have f1:=kb.drew.frozen;have l1:=kb.drew.lt;go_wp2;refine hK.out _ _ (λhh=>absurd rfl hh) ?_;clear hK;refine ze ?_;have hv:((s':Nat):Int)+65536*(x.toNat:Int)=((Ya (l.take (2+1)):Nat):Int):=by rw [htk.out,(by decide:256 ^ 2=65536)];omega
     rw [hv];have hm:Mod (λk=>k=w.heap.size) W (W.setCell ⟨w.heap.size,0,none⟩ (.int .u32 (Ya (l.take (2+1)):Nat))).drew:=(Mod.setCell (X:=λk=>k=w.heap.size) W _ _ rfl).trans (Mod.drew (λ_=>False) _) (λ_ _ h=>h) (λ_ _ h=>h.elim);exact⟨⟨hfr.mod hm (λk _ h=>h),(kb.set _).drew⟩,jB.of_mod hm (λk _ hX he=>by have:=hfr.1 k hX;omega)⟩
   ·
     generalize Ya (l.take 3)=s' at*
     replace htk:=hid htk;replace hx:=hid hx;have hxl:=x.toNat_lt;have hw1:IntKind.u32.wrap (x.toNat:Int)=(x.toNat:Int):=by rw [IntKind.wrap_u32];omega
     gi_wp2_with fail
     refine jJ [O 0,O 1,O 2,O 3,O 4,O 5,O 6,E 7] (some 7) (λw'=>Blk w' w.heap.size #[.int .u32 s'] 35/\True) (by kernel_rfl) (by kernel_rfl) ⟨kb.drew,trivial⟩ ?_;clear e0;have hs2:s'<2 ^ 24:=by rw [N7,h4.out] at hlt;exact Nat.lt_of_lt_of_le hlt (by decide)
     have hor0:=zdW s' x.toNat 24 hs2 (by omega) (by omega);clear hs2
     have hor:bits .or .u32 (s':Int) (IntKind.u32.wrap<|(x.toNat:Int)*16777216)=((s'+2 ^ 24*x.toNat:Nat):Int):=by
      have hp:((2 ^ 24:Nat):Int)=16777216:=by decide
      rw [hp] at hor0
      first
      |exact hor0
      |(rw [Int.mul_one,hw1] at hor0;exact hor0)
     clear hor0;replace hor:=hid hor;have hw2:IntKind.i64.wrap 24=24:=by decide
     (repeat (refine za (v:=?_) rfl rfl (λw' h=>?_) (λK k=>?_);rotate_left;obtain⟨f1,_⟩:=h;have e1:=f1.cell;go_simp;(try with_reducible rfl);go_simp;refine k _ ?_;clear k K))
     rw [hor.out];refine zc rfl (λK hK=>?_);have e1:=kb.drew.cell;have f1:=kb.drew.frozen;have l1:=kb.drew.lt;go_wp2;refine hK.out _ _ (λhh=>absurd rfl hh) ?_;clear hK;refine ze ?_;have hv:((s':Nat):Int)+16777216*(x.toNat:Int)=((Ya (l.take (3+1)):Nat):Int):=by rw [htk.out,(by decide:256 ^ 3=16777216)];omega
     rw [hv];have hm:Mod (λk=>k=w.heap.size) W (W.setCell ⟨w.heap.size,0,none⟩ (.int .u32 (Ya (l.take (3+1)):Nat))).drew:=(Mod.setCell (X:=λk=>k=w.heap.size) W _ _ rfl).trans (Mod.drew (λ_=>False) _) (λ_ _ h=>h) (λ_ _ h=>h.elim);exact⟨⟨hfr.mod hm (λk _ h=>h),(kb.set _).drew⟩,jB.of_mod hm (λk _ hX he=>by have:=hfr.1 k hX;omega)⟩
  case done=>
   rintro D k X W hD hXD hfin⟨hfr,kb⟩ hdef;obtain rfl:k=l.length:=hfin;rw [List.take_length] at kb;have e0:=kb.cell;have hbW:Below w.heap.size w W:=hb0.trans (hfr.below (by omega) (λk h=>by omega));go_wp2;exact z8 (D:=D) (v:=.tuple #[.int .u32 (Ya l:Nat),.int .i64 0]) hdef (by simp [results,Tryz.results198,go_sem]) ⟨rfl,zN hbW (by omega) _⟩
  case stop=>rintro D c X W hD hXD h;exact h.elim
 ·rw [if_neg h4,if_neg h4]
  have t0:(((bs l).size:Int) !=4)=true:=by rw [hsz];simp;omega
  replace hsz:=hid hsz;refine zl func198 rfl ?_;simp only [ntmps198,R8,Nat.reduceAdd,Nat.reduceSub];go_wp2;exact jI (v:=.tuple #[.int .u32 0,.int .i64 2]) (by simp [results,Tryz.results198,go_sem]) ⟨rfl,N2 _ _⟩
theorem yo(d:List UInt8)(a b:Nat):(bs d).extract a b=bs ((d.drop a).take (b - a)):=by
 apply ByteArray.ext;simp [bs,ByteArray.data_extract]
def zdX(r:List UInt8×Nat):Value:=.tuple #[.string (bs r.1),.int .i64 (r.2:Nat)]
theorem zgV(s:List UInt8)(hl:s.length<=1073741824)(w:World):Calls prog 258 #[.string (bs s)] w λe w'=>e=.returned (zdX (jm s))/\Below w.heap.size w w':=by
 have hsz:=zJ s
 by_cases h9:s.length<9
 ·have hf:jm s=([],0):=by unfold jm;rw [if_pos h9]
  rw [hf];have t0:decide (((bs s).size:Int)<9)=true:=by rw [hsz];simp;omega
  replace hsz:=hid hsz;replace hf:=hid hf
  go_enter func258,ntmps258
  go_wp2;go_ret2
  exact⟨rfl,N2 _ _⟩
 have t0:decide (((bs s).size:Int)<9)=false:=by rw [hsz];simp;omega
 have hks:0<(bs s).size:=by omega
 obtain⟨x,hx⟩:∃x,(bs s)[0]=x:=⟨_,rfl⟩
 have hhd:s.head?=some x:=by
  cases s with
  |nil=>simp at h9
  |cons y s=>exact congrArg some hx
 by_cases h52:x=52
 ·subst h52
  have hex:=yo s 1 5;rw [show 5 - 1=4 from rfl] at hex;have hdl:((s.drop 1).take 4).length=4:=by rw [N7,U3];omega
  have hf0:jm s=if 4096<yn ((s.drop 1).take 4)then([],0)else if s.length<9+yn ((s.drop 1).take 4)then([],0)else match xA (s.take (9+yn ((s.drop 1).take 4)))with
   |none=>([],0)
   |some b=>(b.drop 5,9+yn ((s.drop 1).take 4)):=by
   unfold jm;rw [if_neg h9,if_neg (by rw [hhd];simp)];rfl
  generalize(s.drop 1).take 4=d at*
  have hget:=λW=>xQ d (by omega) W
  have hgl:yn d<4294967296:=by
   unfold yn;rw [if_pos hdl]
   have:=zcC d;rw [hdl] at this;exact Nat.lt_of_lt_of_le this (by decide)
  have hgv:zjZ d=.tuple #[.int .u32 (yn d:Nat),.int .i64 0]:=by unfold zjZ;rw [if_pos hdl]
  rw [hgv] at hget;clear hgv
  generalize yn d=n at*
  replace hget:=hid hget;replace hhd:=hid hhd;have b5:(5:Int)<=((bs s).size:Int):=by omega
  have t1:(((52:UInt8).toNat:Int) !=52)=false:=rfl;have c5:¬(bs s).size<5:=by omega
  by_cases h40:4096<n
  ·rw [if_pos h40] at hf0
   rw [hf0];have t2:decide ((4096:Int)<(n:Int))=true:=by simp;omega
   replace hsz:=hid hsz;replace hf0:=hid hf0
   go_enter func258,ntmps258
   go_wp2_with fail
   refine(hget.out _).mono ?_;rintro e w1⟨rfl,hb1⟩;go_wp2;go_ret2
   exact⟨rfl,hb1⟩
  ·rw [if_neg h40] at hf0
   have t2:decide ((4096:Int)<(n:Int))=false:=by simp;omega
   have hw5:IntKind.i64.wrap (5+(n:Int))=5+n:=by rw [N8];omega
   have hw9:IntKind.i64.wrap (5+(n:Int)+4)=5+n+4:=by rw [N8];omega
   have hwn:IntKind.i64.wrap (n:Int)=n:=by rw [N8];omega
   by_cases h9n:s.length<9+n
   ·rw [if_pos h9n] at hf0
    rw [hf0];have t3:decide (((bs s).size:Int)<5+(n:Int)+4)=true:=by simp;omega
    replace hsz:=hid hsz;replace hf0:=hid hf0
    go_enter func258,ntmps258
    go_wp2_with fail
    refine(hget.out _).mono ?_;rintro e w1⟨rfl,hb1⟩;go_wp2;go_ret2
    exact⟨rfl,hb1⟩
   ·rw [if_neg h9n] at hf0
    have t3:decide (((bs s).size:Int)<5+(n:Int)+4)=false:=by simp;omega
    have hwr:(5+(n:Int)+4).toNat=9+n:=by omega
    have hx0:=vA s (9+n);have y1:5+(n:Int)+4<=((bs s).size:Int):=by omega
    have y0:(0:Int)<=5+(n:Int)+4:=by omega
    have htl:(s.take (9+n)).length=9+n:=by rw [N7];omega
    generalize s.take (9+n)=u at*
    have hop:=λW=>QV u (by omega) W
    replace hop:=hid hop
    rcases ho:xA u with _|b
    ·rw [ho] at hf0 hop
     simp only at hf0;rw [hf0];unfold zcB at hop;replace hsz:=hid hsz;replace hf0:=hid hf0;replace htl:=hid htl;replace ho:=hid ho
     go_enter func258,ntmps258
     go_wp2_with fail
     refine(hget.out _).mono ?_;rintro e w1⟨rfl,hb1⟩;go_wp2_with fail
     refine(hop.out _).mono ?_;rintro e w2⟨rfl,hb2⟩;go_wp2;go_ret2
     exact⟨rfl,zg hb1 hb2⟩
    ·rw [ho] at hf0 hop
     simp only at hf0;rw [hf0];unfold zcB at hop
     have hbl:b.length=5+n:=by
      unfold xA at ho;rw [htl] at ho
      split at ho
      ·exact absurd ho (by simp)
      ·split at ho
       ·obtain rfl:=Option.some.inj ho
        rw [N7];omega
       ·exact absurd ho (by simp)
     have hbs:=zJ b;have z5:(5:Int)<=((bs b).size:Int):=by omega
     have hxb:=jk b 5;replace hsz:=hid hsz;replace hf0:=hid hf0;replace htl:=hid htl;replace ho:=hid ho;replace hbl:=hid hbl;replace hbs:=hid hbs
     go_enter func258,ntmps258
     go_wp2_with fail
     refine(hget.out _).mono ?_;rintro e w1⟨rfl,hb1⟩;go_wp2_with fail
     refine(hop.out _).mono ?_;rintro e w2⟨rfl,hb2⟩;go_wp2;go_ret2
     refine⟨?_,zg hb1 hb2⟩
     have hv:zdX (b.drop 5,9+n)=.tuple #[.string (bs (b.drop 5)),.int .i64 (5+(n:Int)+4)]:=by
      unfold zdX;rw [show((9+n:Nat):Int)=5+(n:Int)+4 by omega]
     rw [hv];rfl
 ·have hf:jm s=([],0):=by
   unfold jm;rw [if_neg h9,if_pos];rw [hhd];simpa using h52
  rw [hf]
  have t1:((x.toNat:Int) !=52)=true:=by
   simp only [bne_iff_ne,ne_eq];intro hc;exact h52 (UInt8.toNat_inj.1 (by simpa using(by omega:x.toNat=52)))
  replace hsz:=hid hsz;replace hf:=hid hf;replace hhd:=hid hhd
  go_enter func258,ntmps258
  go_wp2;go_ret2
  exact⟨rfl,N2 _ _⟩
theorem zeO(v:Value)(ts:List (List UInt8))(w:World)(hv:Src w v 1 ts.length (yD ts))(h0:0<ts.length)(hl:ts.length<=1000000)(hb:QN ts ts.length<=1073741824):Calls prog 292 #[v] w λe w'=>
 e=.returned (.string (bs ts.flatten))/\w'=w:=by
 rcases hv.2 with⟨rfl,hn⟩|⟨b,off,cap,rfl,hc,hr⟩
 ·omega
 ·clear hv h0
  go_enter func292,ntmps292
  go_wp2
  go_loop [3,8] (λp3 p8=>∃k:Nat,k<=ts.length/\p8=.int .i64 k/\p3=.string (bs (ts.take k).flatten)) (λ_ p8=>ts.length - (intOf p8).toNat)
  case atStart=>exact⟨0,Nat.zero_le _,rfl,by simp;rfl⟩
  case round=>
   obtain⟨k,hk,rfl,rfl⟩:=hrel
   by_cases hlt:k<ts.length
   ·obtain⟨x,hx⟩:∃x,ts[k]?=some x:=⟨_,N3 hlt⟩
    have hc0:w.cell? ⟨b,off+k,none⟩=some (.string (bs x)):=hr k _ (by simp [yD,hx]);have hl2:=Vw ts (k+1);have hfl:=Jq ts k x hx;rw [Jr hx] at hl2;have hadd:=ZR (ts.take k).flatten x (by have h2:QN ts k=(ts.take k).flatten.length:=rfl;omega) w;rw [← hfl] at hadd;replace hfl:=hid hfl;replace hx:=hid hx;clear hr;go_wp2
    go_round
    case rel=>exact⟨k+1,by omega,by go_num,rfl⟩
    case measure=>simp [intOf];omega
   ·obtain rfl:k=ts.length:=by omega
    rw [List.take_length];clear hr;go_wp2;go_ret
    exact⟨rfl,rfl⟩
theorem zeP(s:ByteArray)(w:World):Calls prog 209 #[.string s] w λe w'=>
 e=.returned (.func (.func 257) #[] #[.pointer (some ⟨w.heap.size,0,none⟩)])/\w'=w.alloc (.cells #[.string s] 9):=by
 go_enter func209,ntmps209
 go_wp2;go_ret
 exact⟨rfl,rfl⟩
