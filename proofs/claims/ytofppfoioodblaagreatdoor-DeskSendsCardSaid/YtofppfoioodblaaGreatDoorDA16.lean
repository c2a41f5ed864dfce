/- PARTS OF THE PROOF. -/
import Derived.Laws.Concat
import Derived.Lib.ConvBytes
import Derived.Test.YtofppfoioodblaaGreatDoorDA15
set_option maxRecDepth 8000
set_option maxHeartbeats 4000000
open Go.Proofs.Tryz
namespace Go.Proofs.YtofppfoioodblaaGreatDoor
section
open Go Go.RowKit Go.Shelf Go.Extern.Stop Go.Stop Go.Extern
attribute [local go_sem] Oper.semAt_some zB zo
theorem zki(s:Nat)(hs:s<4294967296)(b:UInt8)(w:World):Calls prog 298 #[.int .u32 s,.int .u8 (b.toNat:Int)] w λe w'=>e=.returned (.int .u32 (vI s b:Nat))/\w'=w:=by
 have hb:=b.toNat_lt;have hx:s ^^^ b.toNat<4294967296:=Nat.xor_lt_two_pow (n:=32) (by omega) (by omega);have h0:=qB s b.toNat hs (by omega);have ae:IntKind.u32.wrap (b.toNat:Int)=(b.toNat:Int):=by rw [IntKind.wrap_u32];omega
 unfold vI
 generalize s ^^^ b.toNat=q at*
 generalize b.toNat=bn at*
 go_enter func298,ntmps298
 go_wp2
 go_loopw [0,10] (λp0 p10 W=>∃k:Nat,k<=8/\p10=.int .i64 k/\p0=.int .u32 (ZU k q:Nat)/\W=w) (λ_ p10 _=>8 - (intOf p10).toNat)
 case atStart=>exact⟨0,by omega,rfl,by first|rfl|simp [ZU],rfl⟩
 case round=>
  obtain⟨k,hk,rfl,rfl,rfl⟩:=hrel;have ac:=Vf k hx;have aa:=VJ k q;have ab:=zgq ac
  by_cases h8:k<8
  ·generalize ZU k q=s' at*
   replace aa:=hid aa;replace h0:=hid h0;replace ab:=hid ab;go_wp2
   go_roundw
   case rel=>exact⟨k+1,by omega,by go_num,by rw [ab.out,aa.out],by first|exact rfl|exact trivial⟩
   case measure=>simp [intOf];omega
  have ad:k=8:=by omega
  subst ad;go_wp2;go_ret
  exact⟨rfl,rfl⟩
theorem zfk(s:ByteArray)(w:World):Calls prog 208 #[.string s] w λe w'=>
 e=.returned (.func (.func 256) #[] #[.pointer (some ⟨w.heap.size,0,none⟩)])/\w'=w.alloc (.cells #[.string s] 9):=by
 go_enter func208,ntmps208
 go_wp2;go_ret
 exact⟨rfl,rfl⟩
theorem zcI(cb:Nat)(l:List UInt8)(hlen:l.length<=1073741824):
 zaF Fence.wide 2 prog 256 #[.pointer (some ⟨cb,0,none⟩)] (λx:Nat×UInt8=> #[.int .i64 (x.1:Nat),.int .u8 (x.2.toNat:Nat)])
  (λ(k:Nat) x=>l[k]?=some x.2/\x.1=k) (λk _=>k+1) (λk=>k=l.length)
  (λ_ W=>Blk W cb #[.string (bs l)] 9) 0:=by
 intro lp J Jx W hJ hJx hRd hY h0;have r0:=hRd _ _ _ h0;have e0:=r0.cell;have hF:Fence.wide.fn 256:=trivial;have ae:Fence.wide.round=none:=rfl;have ab:=zI l;clear r0;refine callsIn_of_wp func256 rfl hF ?_ ae;simp only [ntmps256,R8,Nat.reduceAdd,Nat.reduceSub]
 gi_wp2
 gi_loopw [6] (λp wr=>∃(k:Nat)(X:Nat->Prop),p=.int .i64 (k:Int)/\k<=l.length/\J k X wr) (λp _=>l.length - (intOf p).toNat)
 case atStart=>exact⟨0,_,rfl,Nat.zero_le _,h0⟩
 case round=>
  obtain⟨k,X,rfl,hk,aa⟩:=hrel;clear e0
  by_cases hlt:k<l.length
  ·have af:k<(bs l).size:=by rw [ab];exact hlt
   have hx:l[k]?=some ((bs l)[k]):=by
    rw [N3 hlt]
    congr 1
   have e1:=(hRd _ _ _ aa).cell;obtain⟨fn,tmps,assign,body,hy,hR⟩:=hY k (k,(bs l)[k]) X wr aa ⟨hx,rfl⟩;simp only at hy;clear hx
   gi_wp2
   refine hR.mono ?_;rintro e W'(⟨rfl,ad, -⟩|⟨rfl,ac⟩)
   ·clear e1 hR hy
    gi_wp2
    go_roundw
    case rel=>exact⟨k+1,_,by go_num,by omega,ad⟩
    case measure=>simp [intOf];omega
   gi_wp2
   refine bodyPost_ret (results_none rfl _ _ _) rfl ?_;exact⟨⟨_,rfl⟩,.inr ⟨_,ac⟩⟩
  obtain rfl:k=l.length:=by omega
  gi_wp2
  go_end0
  exact⟨⟨_,rfl⟩,.inl ⟨l.length,X,rfl,aa⟩⟩
def zmn(l:List UInt8)(s0:Nat)(pb:Nat)(W0:World)(k:Nat)(X:Nat->Prop)(W:World):Prop:=
 Fr (λk=>k=pb) W0 X W/\Blk W pb #[.int .u32 ((l.take k).foldl vI s0:Nat)] 35
theorem zkj(s:Nat)(hs:s<4294967296)(l:List UInt8)(hl:l.length<=1073741824)(w:World):Calls prog 242 #[.int .u32 s,.string (bs l)] w λe w'=>
 e=.returned (.int .u32 (4294967295 - l.foldl vI (4294967295 - s):Nat))/\Below w.heap.size w w':=by
 have hx:=zil s hs;obtain⟨s0,ai⟩:∃s0,4294967295 - s=s0:=⟨_,rfl⟩;rw [ai] at hx⊢;have ab:s0<4294967296:=by omega
 replace ai:=hid ai;refine zl func242 rfl ?_;simp only [ntmps242,R8,Nat.reduceAdd,Nat.reduceSub];go_wp2_with fail
 refine(zfk _ _).mono ?_;rintro e w1⟨rfl,rfl⟩;go_wp2_with fail
 obtain⟨W0,aa⟩:∃W0,W0=((w.alloc (.cells #[.int .u32 (s0:Int)] 35)).alloc (.cells #[.string (bs l)] 9)):=⟨_,rfl⟩;have aj:Below w.heap.size w W0:=by rw [aa];exact pbx
 have an:W0.heap.size=w.heap.size+2:=by rw [aa];simp
 have kp:Blk W0 w.heap.size #[.int .u32 (s0:Int)] 35:=by rw [aa];exact bkx
 have kc:Blk W0 (w.heap.size+1) #[.string (bs l)] 9:=by rw [aa];exact Blk.new (by simp)
 rw [← aa];clear aa hx
 refine xm (gf:=256) (lb:=#[.pointer (some ⟨w.heap.size+1,0,none⟩)]) rfl (enters_of func256 (by kernel_rfl) rfl)
  (zcI (w.heap.size+1) l hl) (λ_=>rfl)
  (λk X W=>zmn l s0 w.heap.size W0 k X W) (λc X W=>False)
  (λk X X' W W' h hm hx=>⟨h.1.step hm hx,h.2.kept (h.1.block hm (by omega))⟩)
  (λc s X X' W W' h hm hx=>h)
  (λk X W h=>kc.mod h.1.2 (by omega))
  ⟨Fr.refl _ _,kp⟩
  (λx=>[(6,.int .u8 (x.2.toNat:Int))]) ?assign ?body ?done ?stop
 case assign=>
  intro l' x W K hK;rw [xZ] at hK⊢
  gi_wp2
  exact hK
 case body=>
  rintro l' k⟨q,x⟩ X W⟨ac,kb⟩⟨hx,rfl⟩ am _;rw [xZ];have ao:=(N6.1 hx).1;have ae:=Vg (l.take q) ab;have af:(l.take (q+1)).foldl vI s0=vI ((l.take q).foldl vI s0) x:=by rw [List.take_add_one,hx];simp [List.foldl_append]
  have e0:=kb.cell;have f0:=kb.frozen;have l0:=kb.lt
  generalize(l.take q).foldl vI s0=s' at*
  replace af:=hid af;replace hx:=hid hx
  gi_wp2_with (gi_at_call 298;refine(inRound _ _ (zki s' ae x _)).mono ?_;rintro e w1 ⟨rfl,rfl⟩)
  have hm:Mod (λk=>k=w.heap.size) w1 (w1.setCell ⟨w.heap.size,0,none⟩ (.int .u32 (vI s' x:Nat))):=Mod.setCell w1 _ _ rfl;exact⟨⟨ac.mod hm (λk _ h=>h),by rw [af.out];exact kb.set _⟩,jm.of_mod hm (λk _ hX he=>by have:=ac.1 k hX;omega)⟩
 case done=>
  rintro D k X W hD al ag⟨ac,kb⟩ ah;obtain rfl:k=l.length:=ag;rw [List.take_length] at kb;have ae:=Vg l ab;have hn:=zil _ ae;have e0:=kb.cell;have ak:Below w.heap.size w W:=aj.trans (ac.below (by omega) (λk h=>by omega));obtain⟨s',ad⟩:∃s',l.foldl vI s0=s':=⟨_,rfl⟩;rw [ad] at e0 hn;replace ad:=hid ad;go_wp2;exact jl (D:=D) (v:=.int .u32 (4294967295 - s':Nat)) ah (by simp [results,Tryz.results242,go_sem]) ⟨by rw [ad.out],zS ak (by omega) _⟩
 case stop=>rintro D c X W hD al h;exact h.elim
theorem zim(l:List UInt8)(hl:l.length<=1073741824)(w:World):Calls prog 193 #[.string (bs l)] w λe w'=>e=.returned (.int .u32 (zh0 l:Nat))/\Below w.heap.size w w':=by
 have hm:=λW=>zkj 0 (by omega) l hl W
 have hc:4294967295 - l.foldl vI (4294967295 - 0)=zh0 l:=rfl;rw [hc] at hm;replace hm:=hid hm;clear hc
 go_enter func193,ntmps193
 go_wp2_with fail
 refine(hm.out _).mono ?_;rintro e w1⟨rfl,aa⟩;go_wp2;go_ret
 exact⟨rfl,aa⟩
theorem JI(a b:List UInt8)(h:a.length+b.length<=9223372036854775807)(w:World):(Op.stringOp .add (bs a) (bs b)).run prog w=.ok (.string (bs (a++b))) w:=by
 rw [run_string_add_sum w (bs a) (bs b) (by rw [zI,zI];exact h),zl5]
theorem zfl(l:List UInt8)(hl:l.length<=1073741823)(w:World):Calls prog 241 #[.string (bs l)] w λe w'=>e=.returned (.string (bs (Zh l)))/\Below w.heap.size w w':=by
 have ab:=JI l (le4 (zh0 l)) (by rw [zY];omega)
 go_enter func241,ntmps241
 go_wp2_with fail
 refine(zim l (by omega) _).mono ?_;rintro e w1⟨rfl,aa⟩;go_wp2_with fail
 refine(yT _ _).mono ?_;rintro e w2⟨rfl,ac⟩;go_wp2;go_ret
 exact⟨rfl,ze aa ac⟩
theorem zin(a b:List UInt8):((bs a).toList==(bs b).toList)=decide (a=b):=by
 rw [vq,vq]
 by_cases h:a=b
 ·simp [h]
 simp [h]
def zio(r:Option (List UInt8)):Value:=match r with|none=>.tuple #[.string ⟨#[]⟩,.bool false] |some b=>.tuple #[.string (bs b),.bool true]
theorem zfm(l:List UInt8)(hl:l.length<=1073741824)(w:World):Calls prog 147 #[.string (bs l)] w λe w'=>e=.returned (zio (ZH l))/\Below w.heap.size w w':=by
 have ab:=zI l
 by_cases h4:l.length<4
 ·have ho:ZH l=none:=by unfold ZH;rw [if_pos h4]
  rw [ho];have t0:decide (((bs l).size:Int)<4)=true:=by rw [ab];simp;omega
  replace ab:=hid ab
  go_enter func147,ntmps147
  go_wp2;go_ret2
  exact⟨rfl,N2 _ _⟩
 have t0:decide (((bs l).size:Int)<4)=false:=by rw [ab];simp;omega
 have ho:ZH l=if l.drop (l.length - 4)=le4 (zh0 (l.take (l.length - 4)))then some (l.take (l.length - 4))else none:=by unfold ZH;rw [if_neg h4]
 have ai:=qr l (l.length - 4);have ah:(bs l).extract (l.length - 4) l.length=bs (l.drop (l.length - 4)):=by have:=yy l (l.length - 4);rwa [ab] at this
 have ag:(l.take (l.length - 4)).length=l.length - 4:=by simp
 have ac:=zI (l.take (l.length - 4));rw [ag] at ac;have aj:(((l.length:Int) - 4).toNat)=l.length - 4:=by omega
 have y0:(4:Int)<=(l.length:Int):=by omega
 have y1:(l.length:Int)<=1073741824:=by omega
 generalize l.take (l.length - 4)=body at*
 generalize l.drop (l.length - 4)=tail at*
 have aa:=λW=>zim body (by omega) W
 replace aa:=hid aa;have hq:=zin tail (le4 (zh0 body))
 by_cases heq:tail=le4 (zh0 body)
 rw [show zio (ZH l)=.tuple #[.string (bs body),.bool true] by rw [ho,if_pos heq];rfl];rw [show decide (tail=le4 (zh0 body))=true by simpa using heq] at hq;replace ho:=hid ho;replace heq:=hid heq
 rotate_left
 rw [show zio (ZH l)=.tuple #[.string ⟨#[]⟩,.bool false] by rw [ho,if_neg heq];rfl];rw [show decide (tail=le4 (zh0 body))=false by simpa using heq] at hq;replace ho:=hid ho;replace heq:=hid heq
 all_goals
  rw [← ab] at*
  go_enter func147,ntmps147
  go_wp2_with fail
  refine zd [O 0,O 1,O 2,O 3,O 4,E 5,E 6,O 7] none (λw'=>True) (by kernel_rfl) (by kernel_rfl) trivial ?_
  refine Wh ?_
  refine zc rfl (λK hK=>?_);go_wp2_with fail
  refine(aa.out _).mono ?_;rintro e w1⟨rfl,af⟩;go_wp2;refine hK.out _ _ (λ_=>trivial) ?_;clear hK K;refine zc rfl (λK hK=>?_);go_wp2_with fail
  refine(yT _ _).mono ?_;rintro e w2⟨rfl,ae⟩;go_wp2;refine hK.out _ _ (λ_=>trivial) ?_;clear hK K;have ad:Below w.heap.size w w2:=ze (ze (zm (N2 _ _)) af) ae
  refine Wh ?_
  refine zg ?_;go_wp2;go_ret2
  exact⟨rfl,ad⟩
def zmo(l:List UInt8):Value:=.tuple #[.int .u32 (vU l:Nat),.int .i64 (if l.length=4 then 0 else 2)]
def Y3(l:List UInt8):Nat:=l.foldr (λb n=>b.toNat+256*n) 0
theorem ziq(l:List UInt8)(b:UInt8):Y3 (l++ [b])=Y3 l+256 ^ l.length*b.toNat:=by
 induction l with
 |nil=>simp [Y3]
 |cons x l ih=>
  have h1:Y3 (x::l++ [b])=x.toNat+256*Y3 (l++ [b]):=rfl;have h2:Y3 (x::l)=x.toNat+256*Y3 l:=rfl;rw [h1,h2,ih,List.length_cons,Nat.pow_succ,Nat.mul_add];rw [Nat.add_assoc,Nat.mul_comm (256 ^ l.length) 256,Nat.mul_assoc]
theorem zir(l:List UInt8):Y3 l<256 ^ l.length:=by
 induction l with
 |nil=>simp [Y3]
 |cons x l ih=>
  have h2:Y3 (x::l)=x.toNat+256*Y3 l:=rfl;have:=x.toNat_lt;rw [h2,List.length_cons,Nat.pow_succ];omega
theorem zfn(s x i:Nat)(hs:s<2 ^ i)(hx:x<256)(hi:i<=24):bits .or .u32 (s:Int) (IntKind.u32.wrap ((x:Int)*((2 ^ i:Nat):Int)))=((s+2 ^ i*x:Nat):Int):=by
 have h1:2 ^ i<=2 ^ 24:=Nat.pow_le_pow_right (by decide) hi;have h2:x*2 ^ i<=255*2 ^ 24:=Nat.mul_le_mul (by omega) h1
 have h3:IntKind.u32.wrap ((x:Int)*((2 ^ i:Nat):Int))=((x*2 ^ i:Nat):Int):=by
  rw [IntKind.wrap_u32,← Int.natCast_mul];omega
 have h4:=Nat.two_pow_add_eq_or_of_lt hs x;rw [h3,zec s _ (by omega) (by omega),Nat.mul_comm x,Nat.add_comm,h4,Nat.or_comm]
def zmR(l:List UInt8)(pb:Nat)(W0:World)(k:Nat)(X:Nat->Prop)(W:World):Prop:=
 Fr (λk=>k=pb) W0 X W/\Blk W pb #[.int .u32 (Y3 (l.take k):Nat)] 35
theorem JX(l:List UInt8)(hl:l.length<=1073741824)(w:World):Calls prog 198 #[.string (bs l)] w λe w'=>e=.returned (zmo l)/\Below w.heap.size w w':=by
 have ah:=zI l;unfold zmo vU
 by_cases h4:l.length=4
 ·rw [if_pos h4,if_pos h4]
  have t0:(((bs l).size:Int) !=4)=false:=by rw [ah,h4];rfl
  replace ah:=hid ah;replace h4:=hid h4;refine zl func198 rfl ?_;simp only [ntmps198,R8,Nat.reduceAdd,Nat.reduceSub];go_wp2_with fail
  refine(zfk _ _).mono ?_;rintro e w1⟨rfl,rfl⟩;go_wp2_with fail
  obtain⟨W0,ai⟩:∃W0,W0=((w.alloc (.cells #[.int .u32 0] 35)).alloc (.cells #[.string (bs l)] 9)):=⟨_,rfl⟩;have ao:Below w.heap.size w W0:=by rw [ai];exact pbx
  have ap:W0.heap.size=w.heap.size+2:=by rw [ai];simp
  have kp:Blk W0 w.heap.size #[.int .u32 0] 35:=by rw [ai];exact bkx
  have kc:Blk W0 (w.heap.size+1) #[.string (bs l)] 9:=by rw [ai];exact Blk.new (by simp)
  rw [← ai];clear ai
  refine xm (gf:=256) (lb:=#[.pointer (some ⟨w.heap.size+1,0,none⟩)]) rfl (enters_of func256 (by kernel_rfl) rfl)
   (zcI (w.heap.size+1) l hl) (λ_=>rfl)
   (λk X W=>zmR l w.heap.size W0 k X W) (λc X W=>False)
   (λk X X' W W' h hm hx=>⟨h.1.step hm hx,h.2.kept (h.1.block hm (by omega))⟩)
   (λc s X X' W W' h hm hx=>h)
   (λk X W h=>kc.mod h.1.2 (by omega))
   ⟨Fr.refl _ _,kp⟩
   (λx=>[(5,.int .i64 (x.1:Int)),(6,.int .u8 (x.2.toNat:Int))]) ?assign ?body ?done ?stop
  case assign=>
   intro l' x W K hK;rw [xZ] at hK⊢
   gi_wp2
   exact hK
  case body=>
   rintro l' k⟨q,x⟩ X W⟨ae,kb⟩⟨hx,rfl⟩ ar _;rw [xZ];have au:=(N6.1 hx).1;have af:=zir (l.take q)
   have ac:Y3 (l.take (q+1))=Y3 (l.take q)+256 ^ q*x.toNat:=by
    rw [List.take_add_one,hx]
    show Y3 (l.take q++ [x])=_
    rw [ziq,N7,Nat.min_eq_left (by omega)]
   have aw:q<4:=by have:=h4.out;omega
   have e0:=kb.cell
   rcases(by omega:q=0∨q=1∨q=2∨q=3)with rfl|rfl|rfl|rfl
   ·
     generalize Y3 (l.take 0)=s' at*
     replace ac:=hid ac;replace hx:=hid hx;have al:=x.toNat_lt;have ag:IntKind.u32.wrap (x.toNat:Int)=(x.toNat:Int):=by rw [IntKind.wrap_u32];omega
     gi_wp2_with fail
     refine jI [O 0,O 1,O 2,O 3,O 4,O 5,O 6,E 7] (some 7) (λw'=>Blk w' w.heap.size #[.int .u32 s'] 35/\True) (by kernel_rfl) (by kernel_rfl) ⟨kb.drew,trivial⟩ ?_;clear e0;have ad:s'<2 ^ 0:=by rw [N7,h4.out] at af;exact Nat.lt_of_lt_of_le af (by decide)
     have aa:=zfn s' x.toNat 0 ad (by omega) (by omega);clear ad
     have ab:bits .or .u32 (s':Int) (x.toNat:Int)=((s'+2 ^ 0*x.toNat:Nat):Int):=by
      have hp:((2 ^ 0:Nat):Int)=1:=by decide
      rw [hp] at aa
      first
      |exact aa
      |(rw [Int.mul_one,ag] at aa;exact aa)
     clear aa;replace ab:=hid ab;have am:IntKind.i64.wrap 0=0:=by decide
     refine Wd ?_
     rw [ab.out];refine zc rfl (λK hK=>?_);have e1:=kb.drew.cell;have f1:=kb.drew.frozen;have l1:=kb.drew.lt;go_wp2;refine hK.out _ _ (λhh=>absurd rfl hh) ?_;clear hK;refine zg ?_;have hv:((s':Nat):Int)+(x.toNat:Int)=((Y3 (l.take (0+1)):Nat):Int):=by rw [ac.out,(by decide:256 ^ 0=1)];omega
     rw [hv];have hm:Mod (λk=>k=w.heap.size) W (W.setCell ⟨w.heap.size,0,none⟩ (.int .u32 (Y3 (l.take (0+1)):Nat))).drew:=(Mod.setCell (X:=λk=>k=w.heap.size) W _ _ rfl).trans (Mod.drew (λ_=>False) _) (λ_ _ h=>h) (λ_ _ h=>h.elim);exact⟨⟨ae.mod hm (λk _ h=>h),(kb.set _).drew⟩,jm.of_mod hm (λk _ hX he=>by have:=ae.1 k hX;omega)⟩
   ·
     generalize Y3 (l.take 1)=s' at*
     replace ac:=hid ac;replace hx:=hid hx;have al:=x.toNat_lt;have ag:IntKind.u32.wrap (x.toNat:Int)=(x.toNat:Int):=by rw [IntKind.wrap_u32];omega
     gi_wp2_with fail
     refine jI [O 0,O 1,O 2,O 3,O 4,O 5,O 6,E 7] (some 7) (λw'=>Blk w' w.heap.size #[.int .u32 s'] 35/\True) (by kernel_rfl) (by kernel_rfl) ⟨kb.drew,trivial⟩ ?_;clear e0;have ad:s'<2 ^ 8:=by rw [N7,h4.out] at af;exact Nat.lt_of_lt_of_le af (by decide)
     have aa:=zfn s' x.toNat 8 ad (by omega) (by omega);clear ad
     have ab:bits .or .u32 (s':Int) (IntKind.u32.wrap<|(x.toNat:Int)*256)=((s'+2 ^ 8*x.toNat:Nat):Int):=by
      have hp:((2 ^ 8:Nat):Int)=256:=by decide
      rw [hp] at aa
      first
      |exact aa
      |(rw [Int.mul_one,ag] at aa;exact aa)
     clear aa;replace ab:=hid ab;have am:IntKind.i64.wrap 8=8:=by decide
     refine Wd ?_
     rw [ab.out];refine zc rfl (λK hK=>?_);have e1:=kb.drew.cell;have f1:=kb.drew.frozen;have l1:=kb.drew.lt;go_wp2;refine hK.out _ _ (λhh=>absurd rfl hh) ?_;clear hK;refine zg ?_;have hv:((s':Nat):Int)+256*(x.toNat:Int)=((Y3 (l.take (1+1)):Nat):Int):=by rw [ac.out,(by decide:256 ^ 1=256)];omega
     rw [hv];have hm:Mod (λk=>k=w.heap.size) W (W.setCell ⟨w.heap.size,0,none⟩ (.int .u32 (Y3 (l.take (1+1)):Nat))).drew:=(Mod.setCell (X:=λk=>k=w.heap.size) W _ _ rfl).trans (Mod.drew (λ_=>False) _) (λ_ _ h=>h) (λ_ _ h=>h.elim);exact⟨⟨ae.mod hm (λk _ h=>h),(kb.set _).drew⟩,jm.of_mod hm (λk _ hX he=>by have:=ae.1 k hX;omega)⟩
   ·
     generalize Y3 (l.take 2)=s' at*
     replace ac:=hid ac;replace hx:=hid hx;have al:=x.toNat_lt;have ag:IntKind.u32.wrap (x.toNat:Int)=(x.toNat:Int):=by rw [IntKind.wrap_u32];omega
     gi_wp2_with fail
     refine jI [O 0,O 1,O 2,O 3,O 4,O 5,O 6,E 7] (some 7) (λw'=>Blk w' w.heap.size #[.int .u32 s'] 35/\True) (by kernel_rfl) (by kernel_rfl) ⟨kb.drew,trivial⟩ ?_;clear e0;have ad:s'<2 ^ 16:=by rw [N7,h4.out] at af;exact Nat.lt_of_lt_of_le af (by decide)
     have aa:=zfn s' x.toNat 16 ad (by omega) (by omega);clear ad
     have ab:bits .or .u32 (s':Int) (IntKind.u32.wrap<|(x.toNat:Int)*65536)=((s'+2 ^ 16*x.toNat:Nat):Int):=by
      have hp:((2 ^ 16:Nat):Int)=65536:=by decide
      rw [hp] at aa
      first
      |exact aa
      |(rw [Int.mul_one,ag] at aa;exact aa)
     clear aa;replace ab:=hid ab;have am:IntKind.i64.wrap 16=16:=by decide
     refine Wd ?_
     rw [ab.out];refine zc rfl (λK hK=>?_);have e1:=kb.drew.cell;have f1:=kb.drew.frozen;have l1:=kb.drew.lt;go_wp2;refine hK.out _ _ (λhh=>absurd rfl hh) ?_;clear hK;refine zg ?_;have hv:((s':Nat):Int)+65536*(x.toNat:Int)=((Y3 (l.take (2+1)):Nat):Int):=by rw [ac.out,(by decide:256 ^ 2=65536)];omega
     rw [hv];have hm:Mod (λk=>k=w.heap.size) W (W.setCell ⟨w.heap.size,0,none⟩ (.int .u32 (Y3 (l.take (2+1)):Nat))).drew:=(Mod.setCell (X:=λk=>k=w.heap.size) W _ _ rfl).trans (Mod.drew (λ_=>False) _) (λ_ _ h=>h) (λ_ _ h=>h.elim);exact⟨⟨ae.mod hm (λk _ h=>h),(kb.set _).drew⟩,jm.of_mod hm (λk _ hX he=>by have:=ae.1 k hX;omega)⟩
   
   generalize Y3 (l.take 3)=s' at*
   replace ac:=hid ac;replace hx:=hid hx;have al:=x.toNat_lt;have ag:IntKind.u32.wrap (x.toNat:Int)=(x.toNat:Int):=by rw [IntKind.wrap_u32];omega
   gi_wp2_with fail
   refine jI [O 0,O 1,O 2,O 3,O 4,O 5,O 6,E 7] (some 7) (λw'=>Blk w' w.heap.size #[.int .u32 s'] 35/\True) (by kernel_rfl) (by kernel_rfl) ⟨kb.drew,trivial⟩ ?_;clear e0;have ad:s'<2 ^ 24:=by rw [N7,h4.out] at af;exact Nat.lt_of_lt_of_le af (by decide)
   have aa:=zfn s' x.toNat 24 ad (by omega) (by omega);clear ad
   have ab:bits .or .u32 (s':Int) (IntKind.u32.wrap<|(x.toNat:Int)*16777216)=((s'+2 ^ 24*x.toNat:Nat):Int):=by
    have hp:((2 ^ 24:Nat):Int)=16777216:=by decide
    rw [hp] at aa
    first
    |exact aa
    |(rw [Int.mul_one,ag] at aa;exact aa)
   clear aa;replace ab:=hid ab;have am:IntKind.i64.wrap 24=24:=by decide
   refine Wd ?_
   rw [ab.out];refine zc rfl (λK hK=>?_);have e1:=kb.drew.cell;have f1:=kb.drew.frozen;have l1:=kb.drew.lt;go_wp2;refine hK.out _ _ (λhh=>absurd rfl hh) ?_;clear hK;refine zg ?_;have hv:((s':Nat):Int)+16777216*(x.toNat:Int)=((Y3 (l.take (3+1)):Nat):Int):=by rw [ac.out,(by decide:256 ^ 3=16777216)];omega
   rw [hv];have hm:Mod (λk=>k=w.heap.size) W (W.setCell ⟨w.heap.size,0,none⟩ (.int .u32 (Y3 (l.take (3+1)):Nat))).drew:=(Mod.setCell (X:=λk=>k=w.heap.size) W _ _ rfl).trans (Mod.drew (λ_=>False) _) (λ_ _ h=>h) (λ_ _ h=>h.elim);exact⟨⟨ae.mod hm (λk _ h=>h),(kb.set _).drew⟩,jm.of_mod hm (λk _ hX he=>by have:=ae.1 k hX;omega)⟩
  case done=>
   rintro D k X W hD aq aj⟨ae,kb⟩ ak;obtain rfl:k=l.length:=aj;rw [List.take_length] at kb;have e0:=kb.cell;have an:Below w.heap.size w W:=ao.trans (ae.below (by omega) (λk h=>by omega));go_wp2;exact jl (D:=D) (v:=.tuple #[.int .u32 (Y3 l:Nat),.int .i64 0]) ak (by simp [results,Tryz.results198,go_sem]) ⟨rfl,zS an (by omega) _⟩
  case stop=>rintro D c X W hD aq h;exact h.elim
 rw [if_neg h4,if_neg h4]
 have t0:(((bs l).size:Int) !=4)=true:=by rw [ah];simp;omega
 replace ah:=hid ah;refine zl func198 rfl ?_;simp only [ntmps198,R8,Nat.reduceAdd,Nat.reduceSub];go_wp2;exact jp (v:=.tuple #[.int .u32 0,.int .i64 2]) (by simp [results,Tryz.results198,go_sem]) ⟨rfl,N2 _ _⟩
theorem xt(d:List UInt8)(a b:Nat):(bs d).extract a b=bs ((d.drop a).take (b - a)):=by
 apply ByteArray.ext;simp [bs,ByteArray.data_extract]
theorem zgr(v:Value)(ts:List (List UInt8))(w:World)(hv:Src w v 1 ts.length (yh ts))(h0:0<ts.length)(hl:ts.length<=1000000)(hb:zaP ts ts.length<=1073741824):Calls prog 292 #[v] w λe w'=>
 e=.returned (.string (bs ts.flatten))/\w'=w:=by
 rcases hv.2 with⟨rfl,hn⟩|⟨b,off,cap,rfl,hc,hr⟩
 ·omega
 clear hv h0
 go_enter func292,ntmps292
 go_wp2
 go_loop [3,8] (λp3 p8=>∃k:Nat,k<=ts.length/\p8=.int .i64 k/\p3=.string (bs (ts.take k).flatten)) (λ_ p8=>ts.length - (intOf p8).toNat)
 case atStart=>exact⟨0,Nat.zero_le _,rfl,by simp;rfl⟩
 case round=>
  obtain⟨k,hk,rfl,rfl⟩:=hrel
  by_cases hlt:k<ts.length
  ·obtain⟨x,hx⟩:∃x,ts[k]?=some x:=⟨_,N3 hlt⟩
   have ad:w.cell? ⟨b,off+k,none⟩=some (.string (bs x)):=hr k _ (by simp [yh,hx]);have ac:=Xm ts (k+1);have ab:=Yi ts k x hx;rw [Yj hx] at ac;have aa:=JI (ts.take k).flatten x (by have h2:zaP ts k=(ts.take k).flatten.length:=rfl;omega) w;rw [← ab] at aa;replace ab:=hid ab;replace hx:=hid hx;clear hr;go_wp2
   go_round
   case rel=>exact⟨k+1,by omega,by go_num,rfl⟩
   case measure=>simp [intOf];omega
  obtain rfl:k=ts.length:=by omega
  rw [List.take_length];clear hr;go_wp2;go_ret
  exact⟨rfl,rfl⟩
theorem zis(b:Nat)(x y z:List UInt8)(w:World)(h0:w.cell? ⟨b,0,none⟩=some (.string (bs x)))(h1:w.cell? ⟨b,1,none⟩=some (.string (bs y)))(h2:w.cell? ⟨b,2,none⟩=some (.string (bs z)))
 (hl:x.length+y.length+z.length<=1073741824):Calls prog 292 #[.slice (some ⟨b,0,none⟩) 3 3] w λe w'=>e=.returned (.string (bs (x++(y++z))))/\w'=w:=by
 have aa:Src w (.slice (some ⟨b,0,none⟩) 3 3) 1 [x,y,z].length (yh [x,y,z]):=by
  refine⟨rfl,.inr ⟨b,0,3,rfl,N0 _,λj u hu=>?_⟩⟩
  match j,hu with
  |0,hu=>cases hu;exact h0
  |1,hu=>cases hu;exact h1
  |2,hu=>cases hu;exact h2
 refine(zgr _ [x,y,z] w aa (by simp) (by simp) (by simp [zaP];omega)).mono ?_;rintro e w'⟨rfl,rfl⟩;exact⟨by simp,rfl⟩
theorem zbh(k:UInt8)(W:World)(b:Nat)(h:W.cell? ⟨b,0,none⟩=some (.int .u8 (k.toNat:Int))):(convert 49 9 (.slice (some ⟨b,0,none⟩) 1 1)).run prog W=.ok (.string (bs [k])) W:=by
 rw [run_convert_bytes_arg W 49 5 Tryz.underlying49 Tryz.underlying5 b 0 1 1 [(k.toNat:Int)] rfl (λi hi=>by obtain rfl:i=0:=(by omega);exact h) 9 Tryz.underlying9];have:strOfNums [(k.toNat:Int)]=bs [k]:=by unfold strOfNums bs;simp
 rw [this]
def zed(r:List UInt8×Int):Value:=.tuple #[.string (bs r.1),.int .i64 r.2]
theorem zgs(d:List UInt8)(hl:d.length<=1073741000)(w:World):Calls prog 232 #[.string (bs d)] w λe w'=>e=.returned (zed (zJ d))/\Below w.heap.size w w':=by
 have ab:=zI d
 by_cases h:4096<d.length
 ·have hr:zJ d=([],30):=by unfold zJ;rw [if_pos h]
  rw [hr];have t0:decide ((4096:Int)<((bs d).size:Int))=true:=by rw [ab];simp;omega
  replace ab:=hid ab;replace hr:=hid hr
  go_enter func232,ntmps232
  go_wp2;go_ret2
  exact⟨rfl,N2 _ _⟩
 have hr:zJ d=(Zh ([52] ++(le4 d.length++d)),0):=by unfold zJ;rw [if_neg h,List.append_assoc]
 rw [hr];have t0:decide ((4096:Int)<((bs d).size:Int))=false:=by rw [ab];simp;omega
 have ah:IntKind.u32.wrap ((bs d).size:Int)=((d.length:Nat):Int):=by rw [IntKind.wrap_u32,ab];omega
 have aa:=λW=>zfl ([52] ++(le4 d.length++d)) (by simp [zY];omega) W
 have ac:([52]:List UInt8).length+(le4 d.length).length+d.length<=1073741824:=by simp [zY];omega
 have ag:∀(W:World)(b:Nat),W.cell? ⟨b,0,none⟩=some (.int .u8 52)->(convert 49 9 (.slice (some ⟨b,0,none⟩) 1 1)).run prog W=.ok (.string (bs [52])) W:=zbh 52;unfold zed;replace ab:=hid ab;replace hr:=hid hr;replace aa:=hid aa
 go_enter func232,ntmps232
 go_wp2_with fail
 go_region_with (first
  |(go_at_call 134;(with_reducible refine(yT _ _).mono ?_);rintro e w1 ⟨rfl,hb⟩;have hz:=hb.size;obtain⟨ae,af⟩:=zbL hb)
  |(go_at_call 292;(with_reducible refine(zis _ [52] (le4 d.length) d _ (by simp) (by simp) (by simp) ac).mono ?_);rintro e w2 ⟨rfl,rfl⟩)
  |(go_at_call 241;refine(aa.out _).mono ?_;rintro e w3 ⟨rfl,ad⟩))
 all_goals go_wp2
 all_goals go_ret2
 all_goals exact⟨rfl,pbx⟩
end
section
open Go Go.RowKit
def Qu(w:World)(e:TypeId)(v:Value)(n:Nat)(xs:List Value):Prop:=
 xs.length=n/\((v=.slice none 0 0/\n=0)∨
  ∃g cap cur,v=.slice (some ⟨g,0,none⟩) n cap/\w.heap[g]?=some (.cells cur e (0,0))/\n<=cap/\cap<=maxLen/\cap<=cur.size/\cur.toList.take n=xs)
theorem zkk(w:World)(e:TypeId):Qu w e (.slice none 0 0) 0 []:=⟨rfl,.inl ⟨rfl,rfl⟩⟩
theorem Row.wide {w:World}{e:TypeId}{v:Value}{n:Nat}{xs:List Value}(h:Row w e 1 v n xs):Qu w e v n xs:=by
 refine⟨by simpa using h.1,?_⟩
 rcases h.2 with h|⟨g,cap,cur,rfl, -,hg,hc,hm,hs,ht⟩
 ·exact .inl h
 exact .inr ⟨g,cap,cur,rfl,hg,hc,hm,by omega,by simpa using ht⟩
theorem Qu.lt {w:World}{e:TypeId}{v:Value}{n:Nat}{xs:List Value}(h:Qu w e v n xs){g:Nat}(hg:v.ownBlock=some g):g<w.heap.size:=by
 rcases h.2 with⟨rfl,_⟩|⟨g',cap,cur,rfl,hgg,_⟩
 ·cases hg
 cases hg;exact(N5.1 hgg).1
theorem Qu.kept {w w':World}{e:TypeId}{v:Value}{n:Nat}{xs:List Value}(h:Qu w e v n xs)(hb:∀g,v.ownBlock=some g->w'.heap[g]?=w.heap[g]?):Qu w' e v n xs:=by
 refine⟨h.1,?_⟩
 rcases h.2 with h2|⟨g,cap,cur,rfl,hg,r⟩
 ·exact .inl h2
 exact .inr ⟨g,cap,cur,rfl,(hb g rfl).trans hg,r⟩
theorem Qu.type {w:World}{e:TypeId}{v:Value}{n:Nat}{xs:List Value}(h:Qu w e v n xs){g:Nat}(hg:v.ownBlock=some g):∃cur,w.heap[g]?=some (.cells cur e (0,0)):=by
 rcases h.2 with⟨rfl,_⟩|⟨g',cap,cur,rfl,hgg,_⟩
 ·cases hg
 cases hg;exact⟨cur,hgg⟩
theorem Qu.ne_blk {w:World}{e:TypeId}{v:Value}{n:Nat}{xs:List Value}{B:Nat}{cs:Array Value}{T:TypeId}(h:Qu w e v n xs)(hB:Blk w B cs T)(hT:e≠T){g:Nat}(hg:v.ownBlock=some g):g≠B:=by
 rintro rfl;obtain⟨aa,hc⟩:=h.type hg;have:=hc.symm.trans hB;simp at this
 exact hT this.2
theorem Qu.shape {w:World}{e:TypeId}{v:Value}{n:Nat}{xs:List Value}(h:Qu w e v n xs):∃a c,v=.slice a n c:=by
 rcases h.2 with⟨rfl,rfl⟩|⟨g,cap,cur,rfl,_⟩
 ·exact⟨_,_,rfl⟩
 exact⟨_,_,rfl⟩
theorem Qu.src {w:World}{e:TypeId}{v:Value}{n:Nat}{xs:List Value}(h:Qu w e v n xs):Src w v 1 n xs:=by
 refine⟨by simpa using h.1,?_⟩
 rcases h.2 with h0|⟨g,cap,cur,rfl,hg,hc,_,hs,ht⟩
 ·exact .inl h0
 refine .inr ⟨g,0,cap,rfl,hc,λj u hu=>?_⟩
 have hj:=(N6.1 hu).1;rw [h.1] at hj;have hB:Blk w g cur e:=hg;rw [Nat.zero_add,hB.cell,← hu,← ht,List.getElem?_take,if_pos hj];simp
theorem Qu.clip {w:World}{e:TypeId}{a:Option Addr}{n c:Nat}{xs:List Value}(h:Qu w e (.slice a n c) n xs)(k:Nat)(hk:k<=n)(ha:a≠none):Qu w e (.slice a k k) k (xs.take k):=by
 rcases h.2 with⟨h0,h1⟩|⟨g,cap,cur,hv,hg,hc,hm,hs,ht⟩
 ·simp at h0;exact absurd h0.1 ha
 cases hv
 refine⟨by rw [N7,h.1];omega,.inr ⟨g,k,cur,rfl,hg,N0 _,by omega,by omega,?_⟩⟩;rw [← ht,List.take_take,Nat.min_eq_left hk]
theorem zee {P:Program}{t e:TypeId}{z:Value}(T:Yf P t e 1 1 z){w:World}{v src:Value}{n m:Nat}{xs news:List Value}
 (hv:Qu w e v n xs) (hs:Src w src 1 m news) (h1:∀u∈news,u.oneCell'=true) (hb:n+m<=1073741824) (ty:TypeId):
 ∃v' w',(Builtin.append_ #[t,t] ty #[v,src]).run P w=.ok v' w'/\Qu w' e v' (n+m) (xs++news)/\w.grownBy w' v.ownBlock/\(v'.ownBlock=v.ownBlock∨v'.ownBlock=some w.heap.size):=by
 obtain⟨i,hi,aj,ad,ak⟩:=info_parts T.info
 rcases hv.2 with⟨rfl,rfl⟩|⟨g,cap,cur,rfl,hg,hnc,hcm,hcs,htake⟩
 ·have hx:xs=[]:=N9 hv.1
  subst hx;obtain⟨v',w',h2,h3,h4,h5⟩:=zM T (jc w e 1) hs h1 hb ty;exact⟨v',w',h2,h3.wide,h4,h5⟩
 rcases hs.2 with⟨rfl,rfl⟩|⟨b,off,sc,rfl,_,hr⟩
 ·have hn:news=[]:=N9 (by simpa using hs.1)
  subst hn;refine⟨.slice (some ⟨g,0,none⟩) n cap,w,?_,by simpa using hv,⟨rfl,rfl,rfl,N0 _,λ_ _ _=>rfl⟩,.inl rfl⟩;simp [Builtin.append_,run_underlying T.under,sizeOf,typeInfo,hi,Builtin.lenOf,Builtin.firstCells,loadCells,hnc,storeCells]
 have ah:∀j,(⟨b,off,none⟩:Addr).add j=⟨b,off+j,none⟩:=λj=>by unfold Addr.add;split<;>simp_all
 have hl:news.length=m*1:=hs.1;have ab:(xs++news).length=n+m:=by rw [N1,hv.1,hl];omega
 have aa:∀j u,news[j]?=some u->w.cell? ((⟨b,off,none⟩:Addr).add j)=some u:=λj u hu=>by rw [ah];exact hr j u hu
 by_cases hroom:n+m<=cap
 ·have ag:n*i.size+news.length<=cur.size:=by rw [ad,hl];omega
  have ac:=run_append_room (P:=P) w t ty e i T.under hi g n cap cur hg ⟨b,off,none⟩ m sc news (by rw [ad];exact hl) aa h1 hroom ag;refine⟨_,_,ac,⟨ab,.inr ⟨g,cap,_,rfl,setRow_heap w g cur _ e _ hg,hroom,hcm,?_,?_⟩⟩,⟨rfl,rfl,rfl,by simp,λk _ hk=>setRow_other w g k _ (λe=>hk (by simp [Value.ownBlock,e]))⟩,.inl rfl⟩
  ·simp only [List.size_toArray,N1,N7,U3,Array.length_toList,ad]
   omega
  rw [ad,Nat.mul_one,htake,← ab]
  exact List.take_left
 have ae:∀j u,xs[j]?=some u->w.cell? ((⟨g,0,none⟩:Addr).add j)=some u:=λj u hu=>by
  have hj:=(N6.1 hu).1;rw [hv.1] at hj;have hB:Blk w g cur e:=hg;have ha:(⟨g,0,none⟩:Addr).add j=⟨g,0+j,none⟩:=by unfold Addr.add;split<;>simp_all
  rw [ha,Nat.zero_add,hB.cell,← hu,← htake,List.getElem?_take,if_pos hj];simp
 have ac:=run_append_grow (P:=P) w t ty e i z T.under hi aj ⟨g,0,none⟩ n cap xs (by rw [ad,Nat.mul_one];exact hv.1) ae ⟨b,off,none⟩ m sc news (by rw [ad];exact hl) aa (by omega) (by omega) (growslice_fits (by omega) (by rw [ak];omega));have ai:=grownCap_ge w (n+m) cap e;have af:grownCap w (n+m) cap e<=maxLen:=grownCap_le_maxLen w (n+m) cap e (by unfold maxLen;omega);refine⟨_,_,ac,⟨ab,.inr ⟨w.heap.size,_,_,rfl,heap_alloc_new w.drew _,ai,af,?_,?_⟩⟩,⟨rfl,rfl,rfl,by simp,λk hk _=>((N2 w.drew.heap.size w.drew).alloc (N0 _) _).block k hk⟩,.inr rfl⟩
 ·simp only [Array.size_append,List.size_toArray,size_zeroCells,T.cells,hl,hv.1]
  omega
 simp only [Array.toList_append,List.append_assoc]
 rw [← List.append_assoc,← ab];exact List.take_left
end
open Go Go.RowKit Go.Shelf Go.Extern.Stop Go.Stop Go.Extern
attribute [local go_sem] Oper.semAt_some zB zo
theorem zlB(l:List UInt8):∀u∈u8s l,u.oneCell'=true:=by
 intro u hu;simp [u8s] at hu;obtain⟨t,_,rfl⟩:=hu;rfl
theorem zit(l:List UInt8):(u8s l).length=l.length:=by simp [u8s]
theorem zgt(l:List UInt8)(w:World):∃W c,(convert 9 49 (.string (bs l))).run prog w=.ok (.slice (some ⟨w.heap.size,0,none⟩) l.length c) W/\Below w.heap.size w W/\Src W (.slice (some ⟨w.heap.size,0,none⟩) l.length c) 1 l.length (u8s l)/\W.heap.size=w.heap.size+1:=by
 have aa:=Go.Lib.run_convert_string_bytes (P:=prog) w 9 49 5 (bs l) Tryz.underlying9 Tryz.underlying49 Tryz.underlying5;rw [zI] at aa;have ab:=Go.Lib.bytesWorld_size w 5 (bs l);refine⟨_,_,aa,⟨?_,?_,?_,by rw [ab];omega,λk hk=>Go.Lib.bytesWorld_at_old w 5 (bs l) k hk⟩,⟨by rw [zit];omega,.inr ⟨w.heap.size,0,_,rfl,grownCap_ge _ _ _ _,λj u hu=>?_⟩⟩,ab⟩
 ·simp [Go.Lib.bytesWorld,World.freeze,World.alloc,World.drew, -World.alloc_eq, -World.drew_eq]
 ·simp [Go.Lib.bytesWorld,World.freeze,World.alloc,World.drew, -World.alloc_eq, -World.drew_eq]
 ·simp [Go.Lib.bytesWorld,World.freeze,World.alloc,World.drew, -World.alloc_eq, -World.drew_eq]
 have hj:=(N6.1 hu).1
 rw [zit] at hj;rw [Nat.zero_add,Go.Lib.bytesWorld_cell w 5 (bs l) j (by rw [zI];exact hj)];rw [← hu];simp [u8s,bs,hj]
def JY(lv:Value)(s:yv):Array Value:=#[lv,.string ⟨#[]⟩,.int .i64 s.cap,.bool s.isCut,.int .i64 s.keep,.bool s.crashed]
def jF(B:Nat)(s:yv)(t:List Nat)(ow:Own)(W:World):Prop:=
 ∃lv,Blk W B (JY lv s) 155/\Qu W 5 lv s.log.length (u8s s.log)/\ow B=t/\∀g,lv.ownBlock=some g->ow g=t
theorem jF.loc(B:Nat)(s:yv)(t:List Nat):yC t (jF B s t):=by
 rintro ow ow' W W'⟨lv,hB,hR,o1,o2⟩ hs hk;have kB:=hk B hB.lt (by rw [o1];exact Sub.rfl' t);have kR:∀g,lv.ownBlock=some g->ow' g=ow g/\W'.heap[g]?=W.heap[g]?:=λg hg=>hk g (hR.lt hg) (by rw [o2 g hg];exact Sub.rfl' t)
 exact⟨lv,hB.kept kB.2,hR.kept (λg hg=>(kR g hg).2),kB.1.trans o1,λg hg=>(kR g hg).1.trans (o2 g hg)⟩
def YG(B:Nat)(s:yv)(t:List Nat)(ow:Own)(w:World)(v:Value)(e:Ending)(w':World):Prop:=
 e=.returned v/\∃ow',zp t ow w ow' w'/\jF B s t ow' w'
theorem zef {B:Nat}{s s':yv}{lv:Value}{t:List Nat}{ow:Own}{W W':World}(hR:Qu W 5 lv s.log.length (u8s s.log))(hB:Blk W B (JY lv s) 155)(o1:ow B=t)(o2:∀g,lv.ownBlock=some g->ow g=t)
 (hM:Mod (λk=>k=B) W W') (hB':Blk W' B (JY lv s') 155) (hl:s'.log=s.log):zp t ow W ow W'/\jF B s' t ow W':=by
 refine⟨⟨hM.mono (λk _ e=>by subst e;rw [o1];exact Sub.rfl' t),λ_ _=>rfl⟩,lv,hB',?_,o1,o2⟩;rw [hl];exact hR.kept (λg hg=>hM.block g (hR.lt hg) (λe=>hR.ne_blk hB (by decide) hg e))
def zcJ(c:Int)(t:List Nat)(ow:Own)(w:World)(e:Ending)(w':World):Prop:=
 ∃B ow',e=.returned (.tuple #[.pointer (some ⟨B,0,none⟩),.int .i64 0])/\zp t ow w ow' w'/\Below w.heap.size w w'/\jF B (Zi c) t ow' w'/\w.heap.size<=B
theorem ziu(c:Int)(h1:64<=c)(h2:c<=1048576)(t:List Nat)(ow:Own)(w:World):Calls prog 42 #[.int .i64 c] w (zcJ c t ow w):=by
 have t1:decide (c<64)=false:=by simp;omega
 have t2:decide (1048576<c)=false:=by simp;omega
 go_enter func42,ntmps42
 go_wp2;go_ret2
 refine⟨w.heap.size,ow.ext w.heap.size (λk=>k=w.heap.size) t,rfl,⟨Mod.alloc _ _ _,λk hk=>Own.ext_old hk⟩,pbx,⟨.slice none 0 0,Blk.new rfl,zkk _ _,Own.ext_new (N0 _) rfl,by simp [Value.ownBlock]⟩,N0 _⟩
theorem zlC(B:Nat)(s:yv)(t:List Nat)(ow:Own)(src:Value)(d:List UInt8)(w:World)(h:jF B s t ow w)(hm:Src w src 1 d.length (u8s d))(hl:s.log.length+d.length<=1073741824):
 Calls prog 233 #[.pointer (some ⟨B,0,none⟩),src] w (YG B {s with log:=s.log++d} t ow w (.tuple #[])):=by
 obtain⟨lv,hB,hR,o1,o2⟩:=h;unfold JY at hB;have e0:=hB.cell;have l0:=hB.lt;obtain⟨ma,mc,rfl⟩:=hm.shape;obtain⟨ha,hc,rfl⟩:=hR.shape;obtain⟨ag,W3,ad,ab,ae,ac⟩:=zee JN hR hm (zlB d) hl 49;have aa:(Value.slice ha s.log.length hc).ownBlock≠some B:=λe=>(hR.ne_blk hB (by decide) e) rfl
 have k3:=hB.kept (ae.block B hB.lt (λe=>aa e.symm));have f3:=k3.frozen;have l3:=k3.lt;have c3:=k3.cell;obtain⟨sa,sc,rfl⟩:=ab.shape;clear hm;replace hB:=hid hB;replace hR:=hid hR;replace ab:=hid ab;replace k3:=hid k3;replace o2:=hid o2;replace ac:=hid ac;replace aa:=hid aa
 go_enter func233,ntmps233
 go_wp2_with (at_builtin
              refine zv rfl _ _ _ rfl rfl rfl ad ?_)
 go_end0
 have af:∀g,(Value.slice sa (s.log.length+d.length) sc).ownBlock=some g->((Value.slice ha s.log.length hc).ownBlock=some g∨g=w.heap.size):=λg hg=>by
  have:=ac.out;rw [hg] at this
  rcases this with h|h
  ·exact .inl h.symm
  right;simpa using h
 refine⟨rfl,ow.ext w.heap.size (λk=>(Value.slice sa (s.log.length+d.length) sc).ownBlock=some k) t,⟨?_,λk hk=>Own.ext_old hk⟩,.slice sa (s.log.length+d.length) sc,k3.out.set (o:=0) _,?_,?_,?_⟩
 ·exact(Mod.grown (X:=λk=>Sub t (ow k)) ae (λk h=>by rw [o2.out k h];exact Sub.rfl' t)).thenSet (p:=⟨B,0,none⟩) (by simp only [o1];exact Sub.rfl' t) _
 ·simp only [N1,Jh]
  refine ab.out.kept (λg hg=>N4 _ _ _ _ (λe=>?_));have e':g=B:=e;subst e'
  rcases af g hg with h|h
  ·exact aa.out h
  omega
 ·rw [Own.ext_old l0,o1]
 intro g hg
 rcases af g hg with h|h
 ·rw [Own.ext_old (hR.out.lt h),o2.out g h]
 rw [Own.ext_new (by omega) hg]
theorem VK(B:Nat)(s:yv)(t:List Nat)(ow:Own)(r:List UInt8)(k:Int)(w:World)(h:jF B s t ow w)(hk0:0<=k)(hk:k<=r.length)(hl:s.log.length+r.length<=1073741824):
 Calls prog 178 #[.pointer (some ⟨B,0,none⟩),.string (bs r),.int .i64 k] w (YG B {s with log:=s.log++r.take k.toNat} t ow w (.tuple #[])):=by
 have ah:=qr r k.toNat;have ac:=zI r;have y1:k<=((bs r).size:Int):=by rw [ac];exact hk
 have ag:(r.take k.toNat).length<=r.length:=by rw [N7];omega
 generalize r.take k.toNat=d at*
 obtain⟨W,c,ad,hb,ab,hW⟩:=zgt d w;have aa:=zlC B s t ow _ d W ((jF.loc B s t).below h hb) ab (by omega);replace aa:=hid aa;replace ac:=hid ac;replace h:=hid h;clear ab
 go_enter func178,ntmps178
 go_wp2_with fail
 refine aa.out.mono ?_;rintro e w1⟨rfl,af,ae,h1⟩;go_wp2;go_end0
 exact⟨rfl,af,(zp.of_below t ow hb).trans ae,h1⟩
theorem ziv(B:Nat)(s:yv)(t:List Nat)(ow:Own)(w:World)(h:jF B s t ow w)(hl:s.log.length<=1073741824):
 Calls prog 177 #[.pointer (some ⟨B,0,none⟩)] w λe w'=>e=.returned (.int .i64 s.log.length)/\Below w.heap.size w w':=by
 obtain⟨lv,hB,hR,o1,o2⟩:=h;unfold JY at hB;obtain⟨ha,hc,rfl⟩:=hR.shape;have aa:IntKind.i64.wrap (s.log.length:Int)=(s.log.length:Int):=by rw [N8];omega
 clear hR o1 o2
 go_enter func177,ntmps177
 go_wp2_with fail
 refine zd [O 0,O 1,O 2,O 3,O 4,O 5,O 6,O 7,O 8,O 9,O 10,O 11] none (λw'=>Blk w' B #[.slice ha s.log.length hc,.string ⟨#[]⟩,.int .i64 s.cap,.bool s.isCut,.int .i64 s.keep,.bool s.crashed] 155/\True) (by kernel_rfl) (by kernel_rfl) ⟨hB.drew,trivial⟩ ?_
 refine Wd ?_
 refine zg ?_;go_wp2;go_ret
 exact⟨rfl,pbx⟩
theorem zeg(B:Nat)(s:yv)(t:List Nat)(ow:Own)(d:List UInt8)(w:World)(h:jF B s t ow w)(hc:vx s)(hd:d.length<=1073741000):
 Calls prog 176 #[.pointer (some ⟨B,0,none⟩),.string (bs d),.int .i64 s.log.length,.func (.func 178) #[.pointer (some ⟨B,0,none⟩)] #[]] w (YG B (jb s d).1 t ow w (.int .i64 (jb s d).2)):=by
 obtain⟨lv,hB,hR,o1,o2⟩:=h;have h0:jF B s t ow w:=⟨lv,hB,hR,o1,o2⟩;unfold JY at hB;have e0:=hB.cell;have l0:=hB.lt;obtain⟨log,cap,af,keep,cr⟩:=s;obtain⟨ar,an,am⟩:=hc;simp only at ar an am e0;clear hR o1 o2;replace hB:=hid hB;replace h0:=hid h0
 cases cr
 ·have ab:=λW=>zgs d hd W
  obtain⟨⟨r,er⟩,hr⟩:∃x,zJ d=x:=⟨_,rfl⟩;rw [hr] at ab;unfold zed at ab;replace ab:=hid ab;have ag:=zI r
  have aa:jb ⟨log,cap,af,keep,false⟩ d=if er≠0 then(⟨log,cap,af,keep,false⟩,30)else if cap<log.length+r.length then(⟨log,cap,af,keep,false⟩,30)else if af=false then(⟨log++r,cap,af,keep,false⟩,0)else(⟨log++r.take (min keep r.length).toNat,cap,false,0,true⟩,31):=by
   unfold jb;simp only [hr];rfl
  have ax:r.length<=4109:=by
   have:r=(zJ d).1:=by rw [hr]
   rw [this]
   rcases Nat.lt_or_ge 4096 d.length with h|h
   ·unfold zJ;rw [if_pos h];simp
   rw [yw h];omega
  replace hr:=hid hr
  by_cases he:er=0
  ·subst he
   have t1:((0:Int) !=0)=false:=rfl;rw [if_neg (by simp)] at aa;have aw:IntKind.i64.wrap ((log.length:Int)+((bs r).size:Int))=(log.length:Int)+r.length:=by rw [N8,ag];omega
   by_cases hcap:cap<log.length+r.length
   ·rw [if_pos hcap] at aa
    rw [aa];have t2:decide (cap<(log.length:Int)+r.length)=true:=by simpa using hcap
    replace aa:=hid aa;replace ag:=hid ag
    go_enter func176,ntmps176
    go_wp2_with fail
    refine(ab.out _).mono ?_;rintro e w1⟨rfl,ac⟩;have e1:=(hB.out.call ac).cell;have l1:=(hB.out.call ac).lt;clear e0;go_wp2;go_ret
    exact⟨rfl,ow,zp.of_below t ow ac,(jF.loc B _ t).below h0.out ac⟩
   rw [if_neg hcap] at aa
   have t2:decide (cap<(log.length:Int)+r.length)=false:=by simpa using hcap
   cases af
   ·rw [if_pos rfl] at aa
    rw [aa];replace aa:=hid aa;have ae:=λW hS=>VK B ⟨log,cap,false,keep,false⟩ t ow r (r.length:Int) W hS (by omega) (Int.le_refl _) (by simp only;omega)
    simp only [Int.toNat_natCast,List.take_length] at ae;replace ae:=hid ae
    go_enter func176,ntmps176
    go_wp2_with fail
    refine(ab.out _).mono ?_;rintro e w1⟨rfl,ac⟩;have e1:=(hB.out.call ac).cell;have l1:=(hB.out.call ac).lt;clear e0;go_wp2_with fail
    refine(ae.out _ ((jF.loc B _ t).below h0.out ac)).mono ?_;rintro e w2⟨rfl,ah,ai,h2⟩;go_wp2;go_ret
    exact⟨rfl,ah,(zp.of_below t ow ac).trans ai,h2⟩
   rw [if_neg (by simp)] at aa
   rw [aa];replace aa:=hid aa;obtain⟨m,hm⟩:∃m,min keep (r.length:Int)=m:=⟨_,rfl⟩;rw [hm];have ao:0<=m:=by omega
   have ap:m<=r.length:=by omega
   have aq:min keep ((bs r).size:Int)=m:=by rw [ag];exact hm
   have ae:=λW hS=>VK B ⟨log,cap,true,keep,false⟩ t ow r m W hS ao ap (by simp only;omega)
   simp only at ae
   generalize r.take m.toNat=rt at*
   replace ae:=hid ae;replace ag:=hid ag;replace hm:=hid hm
   go_enter func176,ntmps176
   go_wp2_with fail
   refine(ab.out _).mono ?_;rintro e w1⟨rfl,ac⟩;have e1:=(hB.out.call ac).cell;have l1:=(hB.out.call ac).lt;clear e0;go_wp2_with fail
   refine(ae.out _ ((jF.loc B _ t).below h0.out ac)).mono ?_;rintro e w2⟨rfl,ah,ai,⟨au,ad,al,ak,aj⟩⟩;have hw:=λs' W'=>zef (s':=s') (W':=W') al ad ak aj
   unfold JY at ad hw;simp only at ad hw;have f2:=ad.frozen;have l2:=ad.lt;have e2:=ad.cell;clear e1 al ak aj;replace hw:=hid hw;replace ad:=hid ad;go_wp2;go_ret
   have hq:=hw.out ⟨log++rt,cap,false,0,true⟩ (((w2.setCell ⟨B,3,none⟩ (.bool false)).setCell ⟨B,4,none⟩ (.int .i64 0)).setCell ⟨B,5,none⟩ (.bool true)) ((((Mod.refl (λk=>k=B) w2).thenSet (p:=⟨B,3,none⟩) rfl _).thenSet (p:=⟨B,4,none⟩) rfl _).thenSet (p:=⟨B,5,none⟩) rfl _)
    (((ad.out.set (o:=3) (.bool false)).set (o:=4) (.int .i64 0)).set (o:=5) (.bool true)) rfl
   exact⟨rfl,ah,((zp.of_below t ow ac).trans ai).trans hq.1,hq.2⟩
  have t1:(er !=0)=true:=by simpa using he
  rw [if_pos he] at aa;rw [aa];replace aa:=hid aa;replace he:=hid he
  go_enter func176,ntmps176
  go_wp2_with fail
  refine(ab.out _).mono ?_;rintro e w1⟨rfl,ac⟩;go_wp2;go_ret
  exact⟨rfl,ow,zp.of_below t ow ac,(jF.loc B _ t).below h0.out ac⟩
 have aa:jb ⟨log,cap,af,keep,true⟩ d=(⟨log,cap,af,keep,true⟩,31):=by unfold jb;rw [if_pos rfl]
 rw [aa];replace aa:=hid aa
 go_enter func176,ntmps176
 go_wp2;go_ret
 exact⟨rfl,ow,zp.refl _ _ _,h0.out⟩
theorem zeh(B:Nat)(s:yv)(t:List Nat)(ow:Own)(d:List UInt8)(w:World)(h:jF B s t ow w)(hc:vx s)(hd:d.length<=1073741000):
 Calls prog 137 #[.pointer (some ⟨B,0,none⟩),.string (bs d)] w (YG B (jb s d).1 t ow w (.int .i64 (jb s d).2)):=by
 have hl:s.log.length<=1073741824:=by have:=hc.1;have:=hc.2.1;omega
 have ab:=λW hS=>ziv B s t ow W hS hl
 have ac:=λW hS=>zeg B s t ow d W hS hc hd
 generalize jb s d=R at*
 replace ab:=hid ab;replace ac:=hid ac;replace h:=hid h;replace hc:=hid hc
 go_enter func137,ntmps137
 go_wp2_with fail
 refine zd [O 0,O 1,O 2,O 3,O 4,O 6,O 7,O 8,O 9,E 5,E 10,O 11] none (λw'=>True) (by kernel_rfl) (by kernel_rfl) trivial ?_
 refine Wh ?_
 refine zc rfl (λK hK=>?_);go_wp2_with fail
 refine(ab.out _ ((jF.loc B s t).below h.out (pbx))).mono ?_;rintro e w1⟨rfl,af⟩;have aa:Below w.heap.size w w1:=pbx;go_wp2;refine hK.out _ _ (λ_=>trivial) ?_;clear hK K;refine zc rfl (λK hK=>?_);go_wp2_with fail
 refine(ac.out _ ((jF.loc B s t).below h.out aa)).mono ?_;rintro e w2⟨rfl,ae,ad,h2⟩;go_wp2;refine hK.out _ _ (λ_=>trivial) ?_;clear hK K
 refine Wh ?_
 refine zg ?_;go_wp2;go_ret
 exact⟨rfl,ae,(zp.of_below t ow aa).trans ad,h2⟩
theorem Src.mod {X:Nat->Prop}{w w':World}{v:Value}{size n:Nat}{xs:List Value}(h:Src w v size n xs)(hm:Mod X w w')(hx:∀a l c,v=.slice (some a) l c->¬X a.block):Src w' v size n xs:=by
 refine⟨h.1,?_⟩
 rcases h.2 with h0|⟨b,off,cap,rfl,hc,hr⟩
 ·exact .inl h0
 exact .inr ⟨b,off,cap,rfl,hc,λj u hu=>(hm.cell (p:=⟨b,off+j,none⟩) (jx (hr j u hu)) (show¬X b from hx ⟨b,off,none⟩ _ _ rfl)).trans (hr j u hu)⟩
