/- PARTS OF THE PROOF. -/
import Derived.Test.YtofppfoioodblaaGreatDoorDA23
set_option maxRecDepth 8000
set_option maxHeartbeats 4000000
open Go.Proofs.Tryz
namespace Go.Proofs.YtofppfoioodblaaGreatDoor
open Go Go.RowKit Go.Shelf Go.Extern.Stop Go.Stop Go.Extern
attribute [local go_sem] Oper.semAt_some zB zo
def zgX(k:Int×Int):Value:=.agg #[.int .i64 k.1,.int .i64 k.2]
theorem zlM(n:Nat)(b:Bool)(x y:Int)(w:World):(Instr.checkKey b (n+1+1) 383 (.agg #[.int .i64 x,.int .i64 y])).run prog w=.ok () w:=by
 simp [Instr.checkKey,go_sem,List.range',Tryz.sizeOf3,Tryz.isAgg3]
theorem zmr(n:Nat)(a b c d:Int)(w:World):(Op.equalIn (n+1+1) 383 (.agg #[.int .i64 a,.int .i64 b]) (.agg #[.int .i64 c,.int .i64 d])).run prog w=.ok (decide (a=c/\b=d)) w:=by
 simp [Op.equalIn,go_sem,List.range',Tryz.sizeOf3,Tryz.isAgg3]
 by_cases h1:a=c<;>by_cases h2:b=d<;>simp [h1,h2]
theorem zc7:qe prog 383 zgX where
 eq:=λk k' w=>by
  obtain⟨a,b⟩:=k;obtain⟨c,d⟩:=k';have h:(Op.equal 383 (zgX (a,b)) (zgX (c,d))).run prog w=(Op.equalIn 10000 383 (.agg #[.int .i64 a,.int .i64 b]) (.agg #[.int .i64 c,.int .i64 d])).run prog w:=rfl;rw [h];rw [zmr 9998];simp [Prod.ext_iff]
 chk:=λb k w=>zlM 9998 b k.1 k.2 w
 bits:=λk=>by simp [zgX,Instr.sameBits]
 now:=⟨_,Tryz.underlying383,λk k'=>by left;rfl⟩
theorem zgY(w:World):Calls prog 243 #[] w λe w'=>∃(mb:Nat)(l:List ((Int×Int)×Value)),e=.returned (.map (some mb))/\Below w.heap.size w w'/\zZ w' mb zgX l/\zH (1,1) l=some (.int .i64 1):=by
 have aa:= @run_makeMap prog
 go_enter func243,ntmps243
 go_wp2_with fail
 refine vB [O 1,O 3,O 5,O 7,E 0] none zcW #[true,true,false,true,false,true,false,true,false,false,false] (m:=6) (by kernel_rfl) (by kernel_rfl) trivial ?_
 refine Wr ?_
 refine jJ rfl (by simp) (λK hK=>?_);go_wp2;refine hK.out _ _ trivial ?_;clear hK K;refine jS (λ_=>?_);have hM:zZ (w.alloc (.map #[] 0)).drew w.heap.size zgX []:=(zZ.made w zgX).kept rfl;refine zlH (m:=2) (mb:=w.heap.size) (enc:=zgX) [2,4,6,8] (λi=>if i=2 then((1,1),.int .i64 1)else if i=4 then((1,2),.int .i64 1)else if i=6 then((2,1),.int .i64 1)else((2,2),.int .i64 2)) (by kernel_rfl) (by decide) w (N0 _) (zm (zi (N2 _ _) _)) hM ?_ ?_
 ·intro i hi W l hM
  simp only [List.mem_cons,List.mem_nil_iff,or_false] at hi
  rcases hi with rfl|rfl|rfl|rfl
  ·
    refine yJ rfl (λK hK=>?_);obtain⟨o,hu,hM⟩:=hM.update zc7 Tryz.underlying381 ((1,1):Int×Int) (.int .i64 1);unfold zgX at hu;go_wp2;exact hK.out _ _ ⟨rfl,⟨_,rfl⟩,hM⟩
  ·
    refine yJ rfl (λK hK=>?_);obtain⟨o,hu,hM⟩:=hM.update zc7 Tryz.underlying381 ((1,2):Int×Int) (.int .i64 1);unfold zgX at hu;go_wp2;exact hK.out _ _ ⟨rfl,⟨_,rfl⟩,hM⟩
  ·
    refine yJ rfl (λK hK=>?_);obtain⟨o,hu,hM⟩:=hM.update zc7 Tryz.underlying381 ((2,1):Int×Int) (.int .i64 1);unfold zgX at hu;go_wp2;exact hK.out _ _ ⟨rfl,⟨_,rfl⟩,hM⟩
  
  refine yJ rfl (λK hK=>?_);obtain⟨o,hu,hM⟩:=hM.update zc7 Tryz.underlying381 ((2,2):Int×Int) (.int .i64 2);unfold zgX at hu;go_wp2;exact hK.out _ _ ⟨rfl,⟨_,rfl⟩,hM⟩
 intro W l hM hl hb
 refine xC [O 9,O 10] (by kernel_rfl) (λ_=>trivial) ?_
 refine Wr ?_
 refine jS ?_;go_wp2;go_ret
 exact⟨_,_,rfl,hb,hM,hl 2 (by simp)⟩
theorem Vq(w:World):Calls prog 194 #[.int .i64 1,.int .i64 1] w λe w'=>e=.returned (.tuple #[.int .i64 1,.int .i64 0])/\Below w.heap.size w w':=by
 go_enter func194,ntmps194
 go_wp2_with fail
 refine(zgY _).mono ?_;rintro e w1⟨mb,l,rfl,ab,hM,hl⟩;have aa:=hM.lookup_ok zc7 Tryz.underlying381 (z:=.int .i64 0) (by kernel_rfl) (1,1);rw [hl] at aa;simp only [Option.getD_some,Option.isSome_some] at aa;unfold zgX at aa;clear hM hl;go_wp2;go_ret2
 exact⟨rfl,ab⟩
def J9(kind src dst:Int)(d:List UInt8):Value:=.agg #[.int .i64 1,.int .i64 kind,.int .i64 src,.int .i64 dst,.int .u32 0,.int .u32 0,.int .u32 0,.int .u32 0,.string (bs d)]
def zmI(kind src dst:Int)(d:List UInt8):Array Value:=#[.int .i64 1,.int .i64 kind,.int .i64 src,.int .i64 dst,.int .u32 0,.int .u32 0,.int .u32 0,.int .u32 0,.string (bs d)]
theorem zms(n:Nat)(k s d:Int)(b:ByteArray)(w:World):(Op.equalIn (n+1+1) 182 (.agg #[.int .i64 1,.int .i64 k,.int .i64 s,.int .i64 d,.int .u32 0,.int .u32 0,.int .u32 0,.int .u32 0,.string b]) (.agg #[.int .i64 1,.int .i64 k,.int .i64 s,.int .i64 d,.int .u32 0,.int .u32 0,.int .u32 0,.int .u32 0,.string b])).run prog w=.ok true w:=by
 simp [go_sem]
theorem zgZ(k s d:Int)(b:List UInt8)(w:World):Calls prog 245 #[J9 k s d b,.int .i64 1] w λe w'=>e=.returned (J9 k s d b)/\Below w.heap.size w w':=by
 unfold J9
 go_enter func245,ntmps245
 go_wp2;exact bodyPost_ret (v:=.agg #[.int .i64 1,.int .i64 k,.int .i64 s,.int .i64 d,.int .u32 0,.int .u32 0,.int .u32 0,.int .u32 0,.string (bs b)]) (by simp [results,Tryz.results245,go_sem]) rfl ⟨rfl,pbx⟩
theorem zlN(k s d:Int)(b:ByteArray)(w:World):(binOp .eql 182 (.agg #[.int .i64 1,.int .i64 k,.int .i64 s,.int .i64 d,.int .u32 0,.int .u32 0,.int .u32 0,.int .u32 0,.string b]) (.agg #[.int .i64 1,.int .i64 k,.int .i64 s,.int .i64 d,.int .u32 0,.int .u32 0,.int .u32 0,.int .u32 0,.string b])).run prog w=.ok (.bool true) w:=by
 have h:(Op.equalIn Op.maxDepth 182 (.agg #[.int .i64 1,.int .i64 k,.int .i64 s,.int .i64 d,.int .u32 0,.int .u32 0,.int .u32 0,.int .u32 0,.string b]) (.agg #[.int .i64 1,.int .i64 k,.int .i64 s,.int .i64 d,.int .u32 0,.int .u32 0,.int .u32 0,.int .u32 0,.string b])).run prog w=.ok true w:=zms 9998 k s d b w;simp [binOp,Op.equal,h,Result.andThen,go_sem]
theorem zay(k s d:Int)(b:List UInt8)(hk:0<=k/\k<=31)(hs:0<=s/\s<16)(hd:0<=d/\d<16)(w:World):Calls prog 196 #[J9 k s d b] w λe w'=>e=.returned (.bool (decide (b.length<=4096)))/\Below w.heap.size w w':=by
 have ac:=λW=>zgZ k s d b W
 have ab:=zI b;have ae:=λW=>zlN k s d (bs b) W
 unfold J9 at ac⊢;have t1:decide (k<0)=false:=by simp;omega
 have t2:decide (31<k)=false:=by simp;omega
 have t3:decide (s<0)=false:=by simp;omega
 have t4:decide (16<=s)=false:=by simp;omega
 have t5:decide (d<0)=false:=by simp;omega
 have t6:decide (16<=d)=false:=by simp;omega
 have kB:=Blk.new (w:=w) (b:=w.heap.size) (cs:=#[.int .i64 1,.int .i64 k,.int .i64 s,.int .i64 d,.int .u32 0,.int .u32 0,.int .u32 0,.int .u32 0,.string (bs b)]) (t:=182) rfl;replace ac:=hid ac;replace ae:=hid ae;replace ab:=hid ab;clear hk hs hd
 by_cases hl:b.length<=4096
 ·have t7:decide ((4096:Int)<((bs b).size:Int))=false:=by rw [ab.out];simp;omega
  rw [show decide (b.length<=4096)=true by simpa using hl];replace hl:=hid hl
  go_enter func196,ntmps196
  go_wp2_with fail
  refine(Vq _).mono ?_;rintro e w1⟨rfl,ad⟩;have k1:=kB.call ad;have c1:=k1.cell;have aa:Below w.heap.size w w1:=pbx;go_wp2_with fail
  clear c1;refine zd [O 0,O 1,O 2,O 3,E 4,O 5,O 6] none (λw'=>Blk w' w.heap.size #[.int .i64 1,.int .i64 k,.int .i64 s,.int .i64 d,.int .u32 0,.int .u32 0,.int .u32 0,.int .u32 0,.string (bs b)] 182/\True) (by kernel_rfl) (by kernel_rfl) ⟨k1.drew,trivial⟩ ?_
  refine Wd ?_
  refine zc rfl (λK hK=>?_);go_wp2_with fail
  refine(ac.out _).mono ?_;rintro e w2⟨rfl,ag⟩;have k2:=k1.drew.call ag;have af:=ze (zm aa) ag;go_wp2;refine hK.out _ _ (λ_=>⟨k2,trivial⟩) ?_;clear hK K;have ah:=ae.out
  refine Wd ?_
  refine zg ?_;go_wp2;go_ret
  exact⟨rfl,af⟩
 have t7:decide ((4096:Int)<((bs b).size:Int))=true:=by rw [ab.out];simp;omega
 rw [show decide (b.length<=4096)=false by simpa using hl];replace hl:=hid hl
 go_enter func196,ntmps196
 go_wp2_with fail
 refine(Vq _).mono ?_;rintro e w1⟨rfl,ad⟩;have k1:=kB.call ad;have c1:=k1.cell;have aa:Below w.heap.size w w1:=pbx;go_wp2;go_ret
 exact⟨rfl,aa⟩
def znb(l:List Nat):List Value:=l.map λ(n:Nat)=>.int .u32 n
theorem zft(s:List UInt8)(b:Nat)(ns:List Nat)(w:World)(hv:Src w (.slice (some ⟨b,0,none⟩) ns.length ns.length) 1 ns.length (znb ns))(hn:ns.length<=10)(hs:s.length<=100000):
 Calls prog 240 #[.string (bs s),.slice (some ⟨b,0,none⟩) ns.length ns.length] w λe w'=>e=.returned (.string (bs (s++ns.flatMap le4)))/\Below w.heap.size w w':=by
 have ab:∀k,((ns.take k).flatMap le4).length<=40:=λk=>by
  have h:∀l:List Nat,(l.flatMap le4).length=4*l.length:=λl=>by
   induction l with
   |nil=>rfl
   |cons a l ih=>rw [List.flatMap_cons,N1,ih,zY,List.length_cons];omega
  rw [h,N7];omega
 replace ab:=hid ab
 go_enter func240,ntmps240
 go_wp2
 go_loopw [0,9] (λp0 p9 wr=>∃k:Nat,p0=.string (bs (s++(ns.take k).flatMap le4))/\p9=.int .i64 (k:Nat)/\k<=ns.length/\Below w.heap.size w wr) (λ_ p9 _=>ns.length - (intOf p9).toNat)
 case atStart=>exact⟨0,by simp,rfl,by omega,N2 _ _⟩
 case round=>
  obtain⟨k,rfl,rfl,hk,ad⟩:=hrel
  by_cases hkl:k<ns.length
  ·have t2:decide ((k:Int)<(ns.length:Int))=true:=by simpa using hkl
   have ag:IntKind.i64.wrap ((k:Int)+1)=(k:Int)+1:=by rw [N8];omega
   obtain⟨x,hx⟩:∃x,ns[k]?=some x:=⟨_,N3 hkl⟩;have y0:(0:Int)<=(k:Int):=by omega
   have y1:(k:Int)<(ns.length:Int):=by omega
   have c0:wr.cell? ⟨b,k,none⟩=some (.int .u32 x):=by
    rcases(hv.below ad).2 with⟨h, -⟩|⟨b',off,cap,h, -,hr⟩
    ·cases h
    cases h
    have:=hr k (.int .u32 x) (by unfold znb;rw [List.getElem?_map,hx];rfl)
    rwa [Nat.zero_add] at this
   have aa:=JI (s++(ns.take k).flatMap le4) (le4 x) (by rw [N1,zY];have:=ab.out k;omega)
   have ac:s++(ns.take (k+1)).flatMap le4=s++(ns.take k).flatMap le4++le4 x:=by
    rw [List.take_add_one,hx];simp [List.flatMap_append]
   rw [← ac] at aa;replace ac:=hid ac;replace hx:=hid hx;replace aa:=hid aa;go_wp2_with fail
   refine(yT _ _).mono ?_;rintro e w1⟨rfl,af⟩;have ae:=aa.out w1;clear c0;go_wp2
   go_roundw
   case rel=>exact⟨k+1,rfl,by simp,by omega,ze ad af⟩
   case measure=>simp [intOf];omega
  obtain rfl:k=ns.length:=by omega
  have t2:decide ((ns.length:Int)<(ns.length:Int))=false:=by simp
  rw [List.take_length] at*;go_wp2;go_ret
  exact⟨rfl,ad⟩
theorem zkE:∀s<16,∀d<16,bits .or .i64 ((s*16:Nat):Int) ((d:Nat):Int)=((s*16+d:Nat):Int):=by decide
theorem zmT(k x:UInt8)(W:World):(convert 49 9 (.slice (some ⟨W.heap.size,0,none⟩) 4 4)).run prog (W.alloc (.cells #[.int .u8 72,.int .u8 1,.int .u8 (k.toNat:Int),.int .u8 (x.toNat:Int)] 5))=.ok (.string (bs [72,1,k,x])) (W.alloc (.cells #[.int .u8 72,.int .u8 1,.int .u8 (k.toNat:Int),.int .u8 (x.toNat:Int)] 5)):=by
 have hk:=run_convert_bytes_arg (P:=prog) (W.alloc (.cells #[.int .u8 72,.int .u8 1,.int .u8 (k.toNat:Int),.int .u8 (x.toNat:Int)] 5)) 49 5 Tryz.underlying49 Tryz.underlying5 W.heap.size 0 4 4 [72,1,(k.toNat:Int),(x.toNat:Int)] rfl (λi hi=>by
  obtain rfl|rfl|rfl|rfl:i=0∨i=1∨i=2∨i=3:=by have:i<4:=hi;omega
  all_goals (rw [(Blk.new (w:=W) rfl).cell];rfl)) 9 Tryz.underlying9
 rw [hk];have h:strOfNums [72,1,(k.toNat:Int),(x.toNat:Int)]=bs [72,1,k,x]:=by unfold strOfNums bs;simp
 rw [h]
theorem zbx {k s d:Nat}{b:List UInt8}(hk:k<=31)(hs:s<16)(hd:d<16):qU (qW k s d b)=if b.length<=4096 then(Zh (([72,1,yW k,yW (s*16+d:Nat)] ++ [0,0,0].flatMap le4)++ [b.length].flatMap le4++b),0)else([],20):=by
 by_cases hb:b.length<=4096
 ·rw [if_pos hb]
  have hr:=zcC (kind:=(k:Int)) (src:=(s:Int)) (dst:=(d:Int)) (data:=b) (by omega) (by omega) (by omega) (by omega) (by omega) (by omega) hb;unfold qU;rw [if_neg (by rw [hr];simp)];rfl
 rw [if_neg hb]
 unfold qU;rw [if_pos (by unfold Yu qW;simp;omega)]
theorem zmU(s:List UInt8)(hs:s.length<=100000)(b:Nat)(W:World)(hB:Blk W b #[.int .u32 0,.int .u32 0,.int .u32 0] 35):Calls prog 240 #[.string (bs s),.slice (some ⟨b,0,none⟩) 3 3] W λe w'=>e=.returned (.string (bs (s++ [0,0,0].flatMap le4)))/\Below W.heap.size W w':=
 zft s b [0,0,0] W (jD (n:=3) (size:=1) (cap:=3) hB rfl (N0 3)) (by simp) hs
theorem zmV(s:List UInt8)(hs:s.length<=100000)(n b:Nat)(W:World)(hB:Blk W b #[.int .u32 (n:Nat)] 35):Calls prog 240 #[.string (bs s),.slice (some ⟨b,0,none⟩) 1 1] W λe w'=>e=.returned (.string (bs (s++ [n].flatMap le4)))/\Below W.heap.size W w':=
 zft s b [n] W (jD (n:=1) (size:=1) (cap:=1) hB rfl (N0 1)) (by simp) hs
theorem zeA(k s d:Nat)(b:List UInt8)(hk:k<=31)(hs:s<16)(hd:d<16)(hb:b.length<=1000000)(w:World):Calls prog 190 #[J9 k s d b] w λe w'=>e=.returned (.tuple #[.string (bs (qU (qW k s d b)).1),.int .i64 (qU (qW k s d b)).2])/\Below w.heap.size w w':=by
 have aa:=λW=>zay k s d b ⟨by omega,by omega⟩ ⟨by omega,by omega⟩ ⟨by omega,by omega⟩ W
 have am:=zI b;rw [zbx hk hs hd];unfold J9 at aa⊢;have kB:=Blk.new (w:=w) (b:=w.heap.size) (cs:=#[.int .i64 1,.int .i64 k,.int .i64 s,.int .i64 d,.int .u32 0,.int .u32 0,.int .u32 0,.int .u32 0,.string (bs b)]) (t:=182) rfl;have a2:=zkE s hs d hd;have a1:IntKind.i64.wrap ((s:Int)*16)=((s*16:Nat):Int):=by rw [N8];omega
 have ap:=xq (i:=(k:Int)) (by omega) (by omega);have al:=xq (i:=((s*16+d:Nat):Int)) (by omega) (by omega);have a4:IntKind.u8.wrap (k:Int)=((yW k).toNat:Int):=by rw [IntKind.wrap_u8,ap];omega
 have a3:IntKind.u8.wrap ((s*16+d:Nat):Int)=((yW (s*16+d:Nat)).toNat:Int):=by rw [IntKind.wrap_u8,al];omega
 generalize yW (k:Int)=kb at*
 generalize yW ((s*16+d:Nat):Int)=xb at*
 generalize s*16+d=sd at*
 generalize s*16=s16 at*
 replace am:=hid am;replace ap:=hid ap;replace al:=hid al;clear hk hs hd
 by_cases hl:b.length<=4096
 ·rw [if_pos hl]
  simp only [show decide (b.length<=4096)=true by simpa using hl] at aa;replace aa:=hid aa;obtain⟨s1,ad⟩:∃s1,[72,1,kb,xb]=s1:=⟨_,rfl⟩;obtain⟨s2,ae⟩:∃s2,s1++ [0,0,0].flatMap le4=s2:=⟨_,rfl⟩;obtain⟨s3,af⟩:∃s3,s2++ [b.length].flatMap le4=s3:=⟨_,rfl⟩;have ab:s3.length=20:=by rw [← af,← ae,← ad];simp [le4]
  have aj:=λb W hW=>zmU s1 (by rw [← ad];simp) b W hW
  have ai:=λc W hW=>zmV s2 (by rw [← ae,← ad];simp [le4]) b.length c W hW
  rw [ae] at aj;rw [af] at ai;have ao:=λW=>zfl (s3++b) (by rw [N1];omega) W
  have ar:=JI s3 b (by omega);have aw:=λW=>zmT kb xb W
  rw [ad,ae,af];simp only [ad] at aw;replace ad:=hid ad;replace ae:=hid ae;replace af:=hid af;replace ab:=hid ab;have a5:(b.length:Int)% 4294967296=(b.length:Int):=by omega
  have ay:=am.out;replace hl:=hid hl;replace aj:=hid aj;replace ai:=hid ai;replace ao:=hid ao;replace ar:=hid ar;replace hb:=hid hb
  go_enter func190,ntmps190
  go_wp2_with fail
  refine(aa.out _).mono ?_;rintro e w1⟨rfl,an⟩;have k1:=kB.call an;have c1:=k1.cell;have l1:=k1.lt;have ac:Below w.heap.size w w1:=pbx;have ax:=aw w1;go_wp2_with fail
  refine(aj.out _ _ (Blk.new (by simp))).mono ?_;rintro e w2⟨rfl,a0⟩;have ag:Below w1.heap.size w1 w2:=pbx;have k2:=k1.call ag;have c2:=k2.cell;have l2:=k2.lt;have ak:=ze ac ag;clear c1 l1;go_wp2_with fail
  refine zd [O 0,O 1,O 2,O 3,O 4,O 7,O 8,E 5,E 6,O 9,E 10,O 11,O 12] none (λw'=>Blk w' w.heap.size #[.int .i64 1,.int .i64 k,.int .i64 s,.int .i64 d,.int .u32 0,.int .u32 0,.int .u32 0,.int .u32 0,.string (bs b)] 182/\True) (by kernel_rfl) (by kernel_rfl) ⟨k2.drew,trivial⟩ ?_;clear c2
  refine Wd ?_
  refine zc rfl (λK hK=>?_);go_wp2;refine hK.out _ _ (λ_=>⟨(k2.drew.alloc _),trivial⟩) ?_;clear hK K;refine zc rfl (λK hK=>?_);go_wp2_with fail
  refine(ai.out _ _ ((Blk.new rfl).drew)).mono ?_;rintro e w3⟨rfl,a6⟩;have ah:Below w2.heap.size w2 w3:=pbx;have k3:=k2.call ah;have aq:=ze ak ah;go_wp2;refine hK.out _ _ (λ_=>⟨k3,trivial⟩) ?_;clear hK K;have az:=ar.out
  refine Wd ?_
  refine zc rfl (λK hK=>?_);go_wp2_with fail
  refine(ao.out _).mono ?_;rintro e w4⟨rfl,au⟩;go_wp2;refine hK.out _ _ (λ_=>⟨k3.call au,trivial⟩) ?_;clear hK K
  refine Wd ?_
  refine zg ?_;go_wp2;go_ret2
  exact⟨rfl,ze aq au⟩
 rw [if_neg hl]
 simp only [show decide (b.length<=4096)=false by simpa using hl] at aa;replace aa:=hid aa;replace hl:=hid hl;replace hb:=hid hb
 go_enter func190,ntmps190
 go_wp2_with fail
 refine(aa.out _).mono ?_;rintro e w1⟨rfl,an⟩;have k1:=kB.call an;have c1:=k1.cell;have l1:=k1.lt;have ac:Below w.heap.size w w1:=pbx;go_wp2;go_ret2
 exact⟨rfl,ac⟩
theorem zeB(s:ByteArray)(w:World):Calls prog 195 #[.string s] w λe w'=>
 e=.returned (.func (.func 244) #[] #[.pointer (some ⟨w.heap.size,0,none⟩)])/\w'=w.alloc (.cells #[.string s] 9):=by
 go_enter func195,ntmps195
 go_wp2;go_ret
 exact⟨rfl,rfl⟩
theorem zg0(d:List UInt8)(a n:Nat):(bs d).extract a (a+n)=bs ((d.drop a).take n):=by
 apply ByteArray.ext
 rw [ByteArray.data_extract];unfold bs;simp only [List.extract_toArray,List.extract_eq_take_drop,Nat.add_sub_cancel_left]
theorem zi5(cb:Nat)(l:List UInt8)(hlen:l.length<=1000000):
 zaF Fence.wide 2 prog 244 #[.pointer (some ⟨cb,0,none⟩)] (λx:Nat×Nat=> #[.int .i64 (x.1:Nat),.int .u32 (x.2:Nat)])
  (λ(k:Nat) x=>k<l.length / 4/\x.1=k/\x.2=vU ((l.drop (4*k)).take 4)) (λk _=>k+1) (λk=>k=l.length / 4)
  (λ_ W=>Blk W cb #[.string (bs l)] 9) 0:=by
 intro lp J Jx W hJ hJx hRd hY h0;have r0:=hRd _ _ _ h0;have e0:=r0.cell;have hF:Fence.wide.fn 244:=trivial;have aj:Fence.wide.round=none:=rfl;have ak:=zI l;have hq:((l.length:Int)).tdiv 4=((l.length / 4:Nat):Int):=by rw [Int.tdiv_eq_ediv_of_nonneg (by omega)];omega
 obtain⟨m,hm⟩:∃m,l.length / 4=m:=⟨_,rfl⟩;rw [hm] at hq hY⊢;have al:4*m<=l.length:=by omega
 clear r0;replace hm:=hid hm;refine callsIn_of_wp func244 rfl hF ?_ aj;simp only [ntmps244,R8,Nat.reduceAdd,Nat.reduceSub]
 gi_wp2
 gi_loopw [9] (λp wr=>∃(k:Nat)(X:Nat->Prop),p=.int .i64 (k:Int)/\k<=m/\J k X wr) (λp _=>m - (intOf p).toNat)
 case atStart=>exact⟨0,_,rfl,Nat.zero_le _,h0⟩
 case round=>
  obtain⟨k,X,rfl,hk,ac⟩:=hrel;clear e0
  by_cases hlt:k<m
  ·have t2:decide ((k:Int)<(m:Int))=true:=by simpa using hlt
   have e1:=(hRd _ _ _ ac).cell;have hx:=zg0 l (4*k) 4;have aa:=λW=>JX ((l.drop (4*k)).take 4) (by rw [N7];omega) W
   have ab:((l.drop (4*k)).take 4).length=4:=by rw [N7,U3];omega
   unfold zmo at aa;simp only [ab,if_pos] at aa;have w3:IntKind.i64.wrap ((k:Int)+1)=(k:Int)+1:=by rw [N8];omega
   have ae:=λW' af=>hY k (k,vU ((l.drop (4*k)).take 4)) X W' af ⟨hlt,rfl,rfl⟩
   generalize(l.drop (4*k)).take 4=wd at*
   obtain⟨p,hp⟩:∃p,4*k=p:=⟨_,rfl⟩;obtain⟨q,ad⟩:∃q,p+4=q:=⟨_,rfl⟩;have w0:4*(k:Int)=(p:Int):=by omega
   have w1:IntKind.i64.wrap (p:Int)=(p:Int):=by rw [N8];omega
   have w2:IntKind.i64.wrap ((p:Int)+4)=(q:Int):=by rw [N8];omega
   have y0:(0:Int)<=(p:Int):=by omega
   have y1:(p:Int)<=(q:Int):=by omega
   have y2:(q:Int)<=(l.length:Int):=by omega
   rw [hp,ad] at hx;replace hp:=hid hp;replace ad:=hid ad;replace ae:=hid ae;replace aa:=hid aa;replace ab:=hid ab
   gi_wp2_with fail
   refine(callsIn_wide.2 (aa.out _)).mono ?_;rintro e w1⟨rfl,ag⟩;have ai:J k X w1:=hJ _ _ _ _ _ ac (Mod.of_below X ag) (λk h=>.inl h);obtain⟨fn,tmps,assign,body,hy,hR⟩:=ae.out w1 ai;clear e1
   gi_wp2
   refine hR.mono ?_;rintro e W'(⟨rfl,af, -⟩|⟨rfl,ah⟩)
   ·clear hR hy
    gi_wp2
    go_roundw
    case rel=>exact⟨k+1,_,by go_num,by omega,af⟩
    case measure=>simp [intOf];omega
   gi_wp2
   refine bodyPost_ret (results_none rfl _ _ _) rfl ?_;exact⟨⟨_,rfl⟩,.inr ⟨_,ah⟩⟩
  obtain rfl:k=m:=by omega
  have t2:decide ((k:Int)<(k:Int))=false:=by simp
  gi_wp2
  go_end0
  exact⟨⟨_,rfl⟩,.inl ⟨k,X,rfl,ac⟩⟩
theorem zi6:∀s<16,∀d<16,bits .and .u8 ((s*16+d:Nat):Int) 15=((d:Nat):Int):=by decide
def zg1(kb xb:UInt8)(l4 data:List UInt8):List UInt8:=72::1::kb::xb::0::0::0::0::0::0::0::0::0::0::0::0::(l4++data)
def zmt(k s d:Nat)(b:List UInt8)(fb zb:Nat)(W0:World)(q:Nat)(X:Nat->Prop)(W:World):Prop:=
 Fr (λj=>j=fb∨j=zb) W0 X W/\q<=4/\Blk W fb #[.int .i64 1,.int .i64 k,.int .i64 s,.int .i64 d,.int .u32 0,.int .u32 0,.int .u32 0,.int .u32 0,.string (bs b)] 182/\Blk W zb #[.int .u32 (if q<=3 then 0 else b.length:Nat)] 35
theorem zmt.step {k s d:Nat}{b:List UInt8}{fb zb:Nat}{W0:World}{q:Nat}{X X':Nat->Prop}{W W':World}(h:zmt k s d b fb zb W0 q X W)(hm:Mod X W W')(hx:∀k,X' k->X k∨(W.heap.size<=k/\k<W'.heap.size))(h1:fb<W0.heap.size)(h2:zb<W0.heap.size):zmt k s d b fb zb W0 q X' W':=
 ⟨h.1.step hm hx,h.2.1,h.2.2.1.kept (h.1.block hm h1),h.2.2.2.kept (h.1.block hm h2)⟩
theorem zi7(k s d:Nat)(hk:k<=31)(hs:s<16)(hd:d<16)(b:List UInt8)(hb:b.length<=4096)(w:World):
 Calls prog 148 #[.string (bs (zg1 (yW k) (yW (s*16+d:Nat)) (le4 b.length) b))] w λe w'=>e=.returned (.tuple #[J9 k s d b,.nilIface])/\Below w.heap.size w w':=by
 obtain⟨B,hB⟩:∃B,zg1 (yW k) (yW (s*16+d:Nat)) (le4 b.length) b=B:=⟨_,rfl⟩;have au:=xq (i:=(k:Int)) (by omega) (by omega);have ao:=xq (i:=((s*16+d:Nat):Int)) (by omega) (by omega);rw [Int.toNat_natCast] at au ao;rw [hB];have a0:B.length=20+b.length:=by rw [← hB];simp [zg1,le4];omega
 have b0:∀h:0<(bs B).size,((bs B)[0]'h).toNat=72:=by subst hB;intro h;rfl
 have b1:∀h:1<(bs B).size,((bs B)[1]'h).toNat=1:=by subst hB;intro h;rfl
 have b2:∀h:2<(bs B).size,((bs B)[2]'h).toNat=k:=by subst hB;intro h;exact au
 have b3:∀h:3<(bs B).size,((bs B)[3]'h).toNat=s*16+d:=by subst hB;intro h;exact ao
 have a8:=zI B;obtain⟨n,hn⟩:∃n,B.length=n:=⟨_,rfl⟩;rw [hn] at a8 a0;have a7:=yy B 20;have an:=yy B 4;rw [a8] at a7 an;have ai:B.drop 20=b:=by subst hB;rfl
 rw [ai] at a7;obtain⟨C,hC⟩:∃C,B.drop 4=C:=⟨_,rfl⟩;rw [hC] at an
 have hw:∀q,q<4->vU ((C.drop (4*q)).take 4)=if q<3 then 0 else b.length:=by
  intro q hq;subst hC;subst hB
  obtain rfl|rfl|rfl|rfl:q=0∨q=1∨q=2∨q=3:=by omega
  ·rfl
  ·rfl
  ·rfl
  show vU ((le4 b.length++b).take 4)=b.length
  rw [List.take_append_of_le_length (by simp [le4]),List.take_of_length_le (by simp [le4]),y7];omega
 have ap:C.length=16+b.length:=by rw [← hC,U3];omega
 have bp:((s*16+d:Nat):Int) / 16=(s:Int):=by omega
 have bn:=zi6 s hs d hd;have aj:=λW=>zay k s d b ⟨by omega,by omega⟩ ⟨by omega,by omega⟩ ⟨by omega,by omega⟩ W
 simp only [show decide (b.length<=4096)=true by simpa using hb] at aj;have bw:IntKind.i64.wrap (k:Int)=(k:Int):=by rw [N8];omega
 have bu:IntKind.i64.wrap (s:Int)=(s:Int):=by rw [N8];omega
 have br:IntKind.i64.wrap (d:Int)=(d:Int):=by rw [N8];omega
 generalize s*16+d=x at*
 have t1:decide ((n:Int)<2)=false:=by simp;omega
 have t2:decide ((n:Int)<20)=false:=by simp;omega
 have y0:(20:Int)<=(n:Int):=by omega
 have y1:(4:Int)<=(n:Int):=by omega
 have bv:(n:Int)<=1073741824:=by omega
 have h3:¬((n:Int)<=3):=by omega
 replace hB:=hid hB;replace au:=hid au;replace ao:=hid ao;replace a0:=hid a0;replace hn:=hid hn;replace ai:=hid ai;replace hC:=hid hC;replace ap:=hid ap;replace hw:=hid hw;replace aj:=hid aj;clear hk hs hd;refine zl func148 rfl ?_;simp only [ntmps148,R8,Nat.reduceAdd,Nat.reduceSub];go_wp2;go_step3;go_wp2_with fail
 refine(Vq _).mono ?_;rintro e w1⟨rfl,a9⟩;have a6:Below w.heap.size w w1:=pbx;have k1:Blk w1 (w.heap.size+1) #[.int .i64 1,.int .i64 0,.int .i64 0,.int .i64 0,.int .u32 0,.int .u32 0,.int .u32 0,.int .u32 0,.string ⟨#[]⟩] 182:=(Blk.new (by simp)).call a9;have k0:Blk w1 w.heap.size #[.int .i64 0,.int .i64 0,.int .i64 0,.int .i64 0,.int .u32 0,.int .u32 0,.int .u32 0,.int .u32 0,.string ⟨#[]⟩] 182:=((Blk.new rfl).alloc _).call a9;obtain⟨V,hV⟩:∃V,V=((w1.alloc (.cells #[.int .u32 0] 35)).alloc (.cells #[.pointer (some ⟨w.heap.size+1,4,none⟩),.pointer (some ⟨w.heap.size+1,5,none⟩),.pointer (some ⟨w.heap.size+1,6,none⟩),.pointer (some ⟨w1.heap.size,0,none⟩)] 306)).alloc (.cells #[.slice (some ⟨w1.heap.size+1,0,none⟩) 4 4] 307):=⟨_,rfl⟩;have kV:=((k1.alloc (.cells #[.int .u32 0] 35)).alloc (.cells #[.pointer (some ⟨w.heap.size+1,4,none⟩),.pointer (some ⟨w.heap.size+1,5,none⟩),.pointer (some ⟨w.heap.size+1,6,none⟩),.pointer (some ⟨w1.heap.size,0,none⟩)] 306)).alloc (.cells #[.slice (some ⟨w1.heap.size+1,0,none⟩) 4 4] 307);have cV:=kV.cell;have fV:=kV.frozen;have lV:=kV.lt;have c1:=k1.cell;go_wp2_with fail
 refine zd [O 0,O 1,O 2,O 3,O 4,O 5,O 6,O 7,O 8,E 9,O 10,E 11] none (λw'=>True) (by kernel_rfl) (by kernel_rfl) trivial ?_
 refine Wh ?_
 refine zc rfl (λK hK=>?_);go_wp2;refine hK.out _ _ (λ_=>trivial) ?_;clear hK K
 refine Wh ?_
 refine zc rfl (λK hK=>?_);go_wp2;refine hK.out _ _ (λ_=>trivial) ?_;clear hK K cV fV lV c1;refine zg ?_;rw [← hV];rw [← hV] at kV;have ba:Below w1.heap.size w1 V:=by rw [hV];exact pbx
 have bt:V.heap.size=w1.heap.size+3:=by rw [hV];simp
 have kz:Blk V w1.heap.size #[.int .u32 0] 35:=by rw [hV];exact((Blk.new rfl).alloc _).alloc _
 have kp:Blk V (w1.heap.size+1) #[.pointer (some ⟨w.heap.size+1,4,none⟩),.pointer (some ⟨w.heap.size+1,5,none⟩),.pointer (some ⟨w.heap.size+1,6,none⟩),.pointer (some ⟨w1.heap.size,0,none⟩)] 306:=by rw [hV];exact(Blk.new (by simp)).alloc _
 have kf:Blk V (w1.heap.size+1+1) #[.slice (some ⟨w1.heap.size+1,0,none⟩) 4 4] 307:=by rw [hV];exact Blk.new (by simp)
 clear hV;have bf:=a6.size;have bj:=k1.lt;have bg:=k0.lt;obtain⟨V3,am⟩:∃V3,V3=(((V.setCell ⟨w.heap.size+1,1,none⟩ (.int .i64 (k:Int))).setCell ⟨w.heap.size+1,2,none⟩ (.int .i64 (s:Int))).setCell ⟨w.heap.size+1,3,none⟩ (.int .i64 (d:Int))).drew:=⟨_,rfl⟩;have ak:Mod (λq=>q=w.heap.size+1) V V3:=by rw [am];exact((((Mod.refl (λq=>q=w.heap.size+1) V).thenSet (p:=⟨w.heap.size+1,1,none⟩) rfl _).thenSet (p:=⟨w.heap.size+1,2,none⟩) rfl _).thenSet (p:=⟨w.heap.size+1,3,none⟩) rfl _).thenDrew
 have k3:Blk V3 (w.heap.size+1) #[.int .i64 1,.int .i64 k,.int .i64 s,.int .i64 d,.int .u32 0,.int .u32 0,.int .u32 0,.int .u32 0,.string ⟨#[]⟩] 182:=by rw [am];exact(((kV.set (o:=1) _).set (o:=2) _).set (o:=3) _).drew
 have a3:V3.heap.size=V.heap.size:=by rw [am];simp
 rw [← am];clear am;have c3:=k3.cell;have f3:=k3.frozen;have l3:=k3.lt;go_wp2;go_step3;go_wp2_with fail
 refine(zeB _ _).mono ?_;rintro e w4⟨rfl,rfl⟩;go_wp2_with fail
 obtain⟨W0,ag⟩:∃W0,W0=(V3.setCell ⟨w.heap.size+1,8,none⟩ (.string (bs b))).alloc (.cells #[.string (bs C)] 9):=⟨_,rfl⟩
 have ax:V3.heap.size=w1.heap.size+3:=by
  have h1:=ak.size;have h2:=a3;omega
 have al:∀q,q≠w.heap.size+1->q<V.heap.size->W0.heap[q]?=V.heap[q]?:=λq hq hl=>by
  rw [ag];rw [U4 _ _ _ (by simp;have:=ak.size;omega),N4 _ _ _ _ hq];exact ak.block q hl hq
 have bq:W0.heap.size=w1.heap.size+4:=by rw [ag];simp [ax]
 have kF:Blk W0 (w.heap.size+1) #[.int .i64 1,.int .i64 k,.int .i64 s,.int .i64 d,.int .u32 0,.int .u32 0,.int .u32 0,.int .u32 0,.string (bs b)] 182:=by rw [ag];exact(k3.set (o:=8) _).alloc _
 have kZ:=kz.kept (w':=W0) (al _ (by omega) (by omega));have kP:=kp.kept (w':=W0) (al _ (by omega) (by omega));have bb:=kf.kept (w':=W0) (al _ (by omega) (by omega));have ah:=(k0.below ba k0.lt).kept (w':=W0) (al _ (by omega) (by omega));have kS:Blk W0 (w1.heap.size+3) #[.string (bs C)] 9:=by rw [ag];exact Blk.new (by simp [ax])
 have ar:Below w.heap.size w W0:=(a6.trans (ba.mono bf)).trans ⟨by rw [ag];exact ak.os,by rw [ag];exact ak.tape,by rw [ag];exact ak.output,by omega,λq hq=>al q (by omega) (by omega)⟩;rw [← ag];have be:(V3.setCell ⟨w.heap.size+1,8,none⟩ (.string (bs b))).heap.size=w1.heap.size+3:=by simp [ax]
 clear ag al kz kp kf c3 f3 k3 ak kV k1 k0
 refine xm (gf:=244) (lb:=#[.pointer (some ⟨w1.heap.size+3,0,none⟩)]) rfl (enters_of func244 (by kernel_rfl) rfl)
  (zi5 (w1.heap.size+3) C (by have:=ap.out;omega)) (λ_=>rfl)
  (λq X W=>zmt k s d b (w.heap.size+1) w1.heap.size W0 q X W) (λc X W=>c=.exit 0/\zmt k s d b (w.heap.size+1) w1.heap.size W0 4 X W)
  (λq X X' W W' h hm hx=>h.step hm hx (by omega) (by omega))
  (λc u X X' W W' h hm hx=>⟨h.1,h.2.step hm hx (by omega) (by omega)⟩)
  (λq X W h=>kS.mod h.1.2 (by omega))
  ⟨Fr.refl _ _,by omega,kF,kZ⟩
  (λx=>[(10,.int .i64 (x.1:Nat)),(11,.int .u32 (x.2:Nat))]) ?assign ?body ?done ?stop
 case assign=>
  intro l' x W K hK;rw [xZ] at hK⊢
  gi_wp2
  exact hK
 case body=>
  rintro l' q⟨q',y⟩ X W⟨aa,aq,kb,kz⟩⟨bm,rfl,hy⟩ bo _;rw [xZ];have eP:=(kP.mod aa.2 (by omega)).cell;have eF:=(bb.mod aa.2 (by omega)).cell;have eb:=kb.cell;have fb:=kb.frozen;have lb:=kb.lt;have ez:=kz.cell;have fz:=kz.frozen;have lz:=kz.lt;simp only at hy aq bm
  rcases(by omega:q'=0∨q'=1∨q'=2∨q'=3∨q'=4)with rfl|rfl|rfl|rfl|rfl
  ·rw [hw.out 0 (by omega),if_pos (by omega)] at hy
   subst hy
   gi_wp2
   have ae:Mod (λj=>j=w.heap.size+1) W (W.setCell ⟨w.heap.size+1,4,none⟩ (.int .u32 ((0:Nat):Int))):=Mod.setCell W _ _ rfl;exact⟨⟨aa.mod ae (λj _ h=>.inl h),by omega,kb.set (o:=4) _,kz.other (p:=⟨w.heap.size+1,4,none⟩) (by show w1.heap.size≠w.heap.size+1;omega) _⟩,jm.of_mod ae (λj _ hX he=>by have:=aa.1 j hX;omega)⟩
  ·rw [hw.out 1 (by omega),if_pos (by omega)] at hy
   subst hy
   gi_wp2
   have ae:Mod (λj=>j=w.heap.size+1) W (W.setCell ⟨w.heap.size+1,5,none⟩ (.int .u32 ((0:Nat):Int))):=Mod.setCell W _ _ rfl;exact⟨⟨aa.mod ae (λj _ h=>.inl h),by omega,kb.set (o:=5) _,kz.other (p:=⟨w.heap.size+1,5,none⟩) (by show w1.heap.size≠w.heap.size+1;omega) _⟩,jm.of_mod ae (λj _ hX he=>by have:=aa.1 j hX;omega)⟩
  ·rw [hw.out 2 (by omega),if_pos (by omega)] at hy
   subst hy
   gi_wp2
   have ae:Mod (λj=>j=w.heap.size+1) W (W.setCell ⟨w.heap.size+1,6,none⟩ (.int .u32 ((0:Nat):Int))):=Mod.setCell W _ _ rfl;exact⟨⟨aa.mod ae (λj _ h=>.inl h),by omega,kb.set (o:=6) _,kz.other (p:=⟨w.heap.size+1,6,none⟩) (by show w1.heap.size≠w.heap.size+1;omega) _⟩,jm.of_mod ae (λj _ hX he=>by have:=aa.1 j hX;omega)⟩
  ·rw [hw.out 3 (by omega),if_neg (by omega)] at hy
   subst hy
   gi_wp2
   have ae:Mod (λj=>j=w1.heap.size) W (W.setCell ⟨w1.heap.size,0,none⟩ (.int .u32 (b.length:Int))):=Mod.setCell W _ _ rfl;exact⟨⟨aa.mod ae (λj _ h=>.inr h),by omega,kb.other (p:=⟨w1.heap.size,0,none⟩) (by show w.heap.size+1≠w1.heap.size;omega) _,kz.set (o:=0) _⟩,jm.of_mod ae (λj _ hX he=>by have:=aa.1 j hX;omega)⟩
  gi_wp2
  exact⟨⟨rfl,aa,aq,kb,kz⟩,jm.refl _ _⟩
 case done=>
  rintro D q X W hD bk a5⟨aa,aq,kb,kz⟩ ac;obtain rfl:q=4:=by have:=ap.out;omega
  clear a5;have aw:Blk W w1.heap.size #[.int .u32 (b.length:Nat)] 35:=kz;have ez:=aw.cell;have eb:=kb.cell;have lb:=kb.lt;have e0:=(ah.mod aa.2 (by omega)).cell;have f0:=(ah.mod aa.2 (by omega)).frozen;have l0:=(ah.mod aa.2 (by omega)).lt;have a1:Below w.heap.size w W:=ar.trans (aa.below (by omega) (λj h=>by omega));have t7:((b.length:Int) !=(b.length:Int))=false:=by simp
  have ay:=zI b;have bi:=ar.size;have kr:=ah.mod aa.2 (show¬(w.heap.size=w.heap.size+1∨w.heap.size=w1.heap.size)by omega);go_wp2_with fail
  unfold J9 at aj;refine(aj.out _).mono ?_;rintro e w5⟨rfl,ab⟩;have bc:=(kb.call ab).cell;have bl:=(kr.call ab).cell;have bh:=(kr.call ab).frozen;have bd:=(kr.call ab).lt;have rr:=(((((((((kr.call ab).set (o:=0) (.int .i64 1)).set (o:=1) (.int .i64 k)).set (o:=2) (.int .i64 s)).set (o:=3) (.int .i64 d)).set (o:=4) (.int .u32 0)).set (o:=5) (.int .u32 0)).set (o:=6) (.int .u32 0)).set (o:=7) (.int .u32 0)).set (o:=8) (.string (bs b));clear ez eb lb e0 f0 l0;go_wp2;rw [Exit.noGoto_ret];go_wp2;obtain⟨Wf,af⟩:∃Wf,Wf=(((((((((w5.setCell ⟨w.heap.size,0,none⟩ (.int .i64 1)).setCell ⟨w.heap.size,1,none⟩ (.int .i64 k)).setCell ⟨w.heap.size,2,none⟩ (.int .i64 s)).setCell ⟨w.heap.size,3,none⟩ (.int .i64 d)).setCell ⟨w.heap.size,4,none⟩ (.int .u32 0)).setCell ⟨w.heap.size,5,none⟩ (.int .u32 0)).setCell ⟨w.heap.size,6,none⟩ (.int .u32 0)).setCell ⟨w.heap.size,7,none⟩ (.int .u32 0)).setCell ⟨w.heap.size,8,none⟩ (.string (bs b))):=⟨_,rfl⟩;rw [← af] at rr;rw [← af];have a4:=(N5.1 ac).1;have ad:D≠w.heap.size:=by omega
  have az:Wf.heap[D]?=some (.deferred (some [])):=by
   rw [af]
   repeat refine Jd ?_ ad _
   exact(ab.block D a4).trans ac
  have a2:Below w.heap.size w Wf:=by
   rw [af]
   repeat refine zu ?_ (N0 _) _
   exact ze a1 ab
  have rc:=(rr.putObj (r:=D) (Ne.symm ad) (.deferred none)).cell;unfold J9;exact jl (D:=D) (v:=.tuple #[.agg #[.int .i64 1,.int .i64 k,.int .i64 s,.int .i64 d,.int .u32 0,.int .u32 0,.int .u32 0,.int .u32 0,.string (bs b)],.nilIface]) az (by simp [results,Tryz.results148,go_sem,rc]) ⟨rfl,zS a2 (by omega) _⟩
 case stop=>
  rintro D c X W hD bk⟨rfl,aa,aq,kb,kz⟩ ac;have aw:Blk W w1.heap.size #[.int .u32 (b.length:Nat)] 35:=kz;have ez:=aw.cell;have eb:=kb.cell;have lb:=kb.lt;have e0:=(ah.mod aa.2 (by omega)).cell;have f0:=(ah.mod aa.2 (by omega)).frozen;have l0:=(ah.mod aa.2 (by omega)).lt;have a1:Below w.heap.size w W:=ar.trans (aa.below (by omega) (λj h=>by omega));have t7:((b.length:Int) !=(b.length:Int))=false:=by simp
  have ay:=zI b;have bi:=ar.size;have kr:=ah.mod aa.2 (show¬(w.heap.size=w.heap.size+1∨w.heap.size=w1.heap.size)by omega);go_wp2_with fail
  unfold J9 at aj;refine(aj.out _).mono ?_;rintro e w5⟨rfl,ab⟩;have bc:=(kb.call ab).cell;have bl:=(kr.call ab).cell;have bh:=(kr.call ab).frozen;have bd:=(kr.call ab).lt;have rr:=(((((((((kr.call ab).set (o:=0) (.int .i64 1)).set (o:=1) (.int .i64 k)).set (o:=2) (.int .i64 s)).set (o:=3) (.int .i64 d)).set (o:=4) (.int .u32 0)).set (o:=5) (.int .u32 0)).set (o:=6) (.int .u32 0)).set (o:=7) (.int .u32 0)).set (o:=8) (.string (bs b));clear ez eb lb e0 f0 l0;go_wp2;rw [Exit.noGoto_ret];go_wp2;obtain⟨Wf,af⟩:∃Wf,Wf=(((((((((w5.setCell ⟨w.heap.size,0,none⟩ (.int .i64 1)).setCell ⟨w.heap.size,1,none⟩ (.int .i64 k)).setCell ⟨w.heap.size,2,none⟩ (.int .i64 s)).setCell ⟨w.heap.size,3,none⟩ (.int .i64 d)).setCell ⟨w.heap.size,4,none⟩ (.int .u32 0)).setCell ⟨w.heap.size,5,none⟩ (.int .u32 0)).setCell ⟨w.heap.size,6,none⟩ (.int .u32 0)).setCell ⟨w.heap.size,7,none⟩ (.int .u32 0)).setCell ⟨w.heap.size,8,none⟩ (.string (bs b))):=⟨_,rfl⟩;rw [← af] at rr;rw [← af];have a4:=(N5.1 ac).1;have ad:D≠w.heap.size:=by omega
  have az:Wf.heap[D]?=some (.deferred (some [])):=by
   rw [af]
   repeat refine Jd ?_ ad _
   exact(ab.block D a4).trans ac
  have a2:Below w.heap.size w Wf:=by
   rw [af]
   repeat refine zu ?_ (N0 _) _
   exact ze a1 ab
  have rc:=(rr.putObj (r:=D) (Ne.symm ad) (.deferred none)).cell;unfold J9;exact jl (D:=D) (v:=.tuple #[.agg #[.int .i64 1,.int .i64 k,.int .i64 s,.int .i64 d,.int .u32 0,.int .u32 0,.int .u32 0,.int .u32 0,.string (bs b)],.nilIface]) az (by simp [results,Tryz.results148,go_sem,rc]) ⟨rfl,zS a2 (by omega) _⟩
theorem zi8(w:World):Calls prog 149 #[.nilIface] w λe w'=>e=.returned (.int .i64 0)/\w'=w:=by
 go_enter func149,ntmps149
 go_wp2;go_ret
 exact⟨rfl,rfl⟩
theorem zkF {k s d:Nat}{b:List UInt8}(hk:k<=31)(hs:s<16)(hd:d<16)(hb:b.length<=4096):ZH (qU (qW k s d b)).1=some (zg1 (yW k) (yW (s*16+d:Nat)) (le4 b.length) b):=by
 rw [zbx hk hs hd,if_pos hb,Xx];simp [zg1,le4]
theorem zg2(k s d:Nat)(hk:k<=31)(hs:s<16)(hd:d<16)(b:List UInt8)(hb:b.length<=4096)(w:World):
 Calls prog 100 #[.string (bs (qU (qW k s d b)).1)] w λe w'=>e=.returned (.tuple #[J9 k s d b,.int .i64 0])/\Below w.heap.size w w':=by
 have ag:=zkF (b:=b) hk hs hd hb;have ac:=λW=>zi7 k s d hk hs hd b hb W
 have ab:(qU (qW k s d b)).1.length<=1073741824:=by
  rw [zbx hk hs hd,if_pos hb];unfold Zh;simp [le4]
  omega
 have ho:=λW=>zfm (qU (qW k s d b)).1 ab W
 rw [ag] at ho
 generalize(qU (qW k s d b)).1=S at*
 generalize zg1 (yW k) (yW (s*16+d:Nat)) (le4 b.length) b=B at*
 unfold zio at ho;unfold J9 at ac⊢;simp only at ho;have k0:Blk (w.alloc (.cells #[.int .i64 0,.int .i64 0,.int .i64 0,.int .i64 0,.int .u32 0,.int .u32 0,.int .u32 0,.int .u32 0,.string ⟨#[]⟩] 182)) w.heap.size #[.int .i64 0,.int .i64 0,.int .i64 0,.int .i64 0,.int .u32 0,.int .u32 0,.int .u32 0,.int .u32 0,.string ⟨#[]⟩] 182:=Blk.new rfl;replace ag:=hid ag;replace ho:=hid ho;replace ac:=hid ac;clear hk hs hd ab hb
 go_enter func100,ntmps100
 go_wp2_with fail
 refine(ho.out _).mono ?_;rintro e w1⟨rfl,ah⟩;have af:Below w.heap.size w w1:=pbx;go_wp2_with fail
 refine(ac.out _).mono ?_;rintro e w2⟨rfl,ad⟩;have k2:=((k0.call ah).call ad).alloc (.cells #[.int .i64 1,.int .i64 k,.int .i64 s,.int .i64 d,.int .u32 0,.int .u32 0,.int .u32 0,.int .u32 0,.string (bs b)] 182);have kf:Blk (w2.alloc (.cells #[.int .i64 1,.int .i64 k,.int .i64 s,.int .i64 d,.int .u32 0,.int .u32 0,.int .u32 0,.int .u32 0,.string (bs b)] 182)) w2.heap.size #[.int .i64 1,.int .i64 k,.int .i64 s,.int .i64 d,.int .u32 0,.int .u32 0,.int .u32 0,.int .u32 0,.string (bs b)] 182:=Blk.new rfl;have ae:=ze af ad;go_wp2_with fail
 refine zd [O 0,O 1,E 2,E 3,O 4] none (λw'=>Blk w' w2.heap.size #[.int .i64 1,.int .i64 k,.int .i64 s,.int .i64 d,.int .u32 0,.int .u32 0,.int .u32 0,.int .u32 0,.string (bs b)] 182/\True) (by kernel_rfl) (by kernel_rfl) ⟨kf.drew,trivial⟩ ?_
 refine Wd ?_
 refine zc rfl (λK hK=>?_);go_wp2_with fail
 refine(zi8 _).mono ?_;rintro e w3⟨rfl,rfl⟩;go_wp2;refine hK.out _ _ (λ_=>⟨kf.drew,trivial⟩) ?_;clear hK K;have aa:w2.heap.size≠w.heap.size:=by have:=ah.size;have:=ad.size;simp at*;omega
 obtain⟨V,hV⟩:∃V,V=(w2.alloc (.cells #[.int .i64 1,.int .i64 k,.int .i64 s,.int .i64 d,.int .u32 0,.int .u32 0,.int .u32 0,.int .u32 0,.string (bs b)] 182)):=⟨_,rfl⟩;rw [← hV] at k2 kf;rw [← hV];have d0:V.cell? ⟨w.heap.size,0,none⟩=some (.int .i64 0):=k2.cell 0;have d1:V.cell? ⟨w.heap.size,1,none⟩=some (.int .i64 0):=k2.cell 1;have d2:V.cell? ⟨w.heap.size,2,none⟩=some (.int .i64 0):=k2.cell 2;have d3:V.cell? ⟨w.heap.size,3,none⟩=some (.int .i64 0):=k2.cell 3;have d4:V.cell? ⟨w.heap.size,4,none⟩=some (.int .u32 0):=k2.cell 4;have d5:V.cell? ⟨w.heap.size,5,none⟩=some (.int .u32 0):=k2.cell 5;have d6:V.cell? ⟨w.heap.size,6,none⟩=some (.int .u32 0):=k2.cell 6;have d7:V.cell? ⟨w.heap.size,7,none⟩=some (.int .u32 0):=k2.cell 7;have d8:V.cell? ⟨w.heap.size,8,none⟩=some (.string ⟨#[]⟩):=k2.cell 8;have ai:Below w.heap.size w V:=by rw [hV];exact zi ae _
 clear hV;have f2:=k2.frozen;have l2:=k2.lt;have rr:=(Blk.drew (((((((((k2.set (o:=0) (.int .i64 1)).set (o:=1) (.int .i64 k)).set (o:=2) (.int .i64 s)).set (o:=3) (.int .i64 d)).set (o:=4) (.int .u32 0)).set (o:=5) (.int .u32 0)).set (o:=6) (.int .u32 0)).set (o:=7) (.int .u32 0)).set (o:=8) (.string (bs b)))).cell;refine zc rfl (λK hK=>?_);go_wp2;refine hK.out _ _ (λ_=>⟨Blk.drew (Blk.other ((Blk.other ((Blk.other ((Blk.other ((Blk.other ((Blk.other ((Blk.other ((Blk.other ((Blk.other (kf) (p:=⟨w.heap.size,0,none⟩) aa (.int .i64 1))) (p:=⟨w.heap.size,1,none⟩) aa (.int .i64 k))) (p:=⟨w.heap.size,2,none⟩) aa (.int .i64 s))) (p:=⟨w.heap.size,3,none⟩) aa (.int .i64 d))) (p:=⟨w.heap.size,4,none⟩) aa (.int .u32 0))) (p:=⟨w.heap.size,5,none⟩) aa (.int .u32 0))) (p:=⟨w.heap.size,6,none⟩) aa (.int .u32 0))) (p:=⟨w.heap.size,7,none⟩) aa (.int .u32 0))) (p:=⟨w.heap.size,8,none⟩) aa (.string (bs b))),trivial⟩) ?_;clear hK K
 refine Wd ?_
 refine zg ?_;go_wp2;exact bodyPost_ret (v:=.tuple #[.agg #[.int .i64 1,.int .i64 k,.int .i64 s,.int .i64 d,.int .u32 0,.int .u32 0,.int .u32 0,.int .u32 0,.string (bs b)],.int .i64 0]) (by simp [results,Tryz.results100,go_sem,rr]) rfl ⟨rfl,zm (zu (zu (zu (zu (zu (zu (zu (zu (zu ai (N0 _) _) (N0 _) _) (N0 _) _) (N0 _) _) (N0 _) _) (N0 _) _) (N0 _) _) (N0 _) _) (N0 _) _)⟩
def zmW:Value:=.agg #[.int .i64 0,.int .i64 0,.int .i64 0,.int .i64 0,.int .u32 0,.int .u32 0,.int .u32 0,.int .u32 0,.string ⟨#[]⟩]
theorem zg3(S:List UInt8)(hl:S.length<=1073741824)(hop:ZH S=none)(w:World):
 Calls prog 100 #[.string (bs S)] w λe w'=>e=.returned (.tuple #[zmW,.int .i64 21])/\Below w.heap.size w w':=by
 have ho:=λW=>zfm S hl W
 rw [hop] at ho;unfold zio at ho;simp only at ho;replace ho:=hid ho;replace hop:=hid hop;unfold zmW;have k0:Blk (w.alloc (.cells #[.int .i64 0,.int .i64 0,.int .i64 0,.int .i64 0,.int .u32 0,.int .u32 0,.int .u32 0,.int .u32 0,.string ⟨#[]⟩] 182)) w.heap.size #[.int .i64 0,.int .i64 0,.int .i64 0,.int .i64 0,.int .u32 0,.int .u32 0,.int .u32 0,.int .u32 0,.string ⟨#[]⟩] 182:=Blk.new rfl
 go_enter func100,ntmps100
 go_wp2_with fail
 refine(ho.out _).mono ?_;rintro e w1⟨rfl,ab⟩;have aa:Below w.heap.size w w1:=pbx;have k1:=k0.call ab;have f1:=k1.frozen;have l1:=k1.lt;have d0:w1.cell? ⟨w.heap.size,0,none⟩=some (.int .i64 0):=k1.cell 0;have d1:w1.cell? ⟨w.heap.size,1,none⟩=some (.int .i64 0):=k1.cell 1;have d2:w1.cell? ⟨w.heap.size,2,none⟩=some (.int .i64 0):=k1.cell 2;have d3:w1.cell? ⟨w.heap.size,3,none⟩=some (.int .i64 0):=k1.cell 3;have d4:w1.cell? ⟨w.heap.size,4,none⟩=some (.int .u32 0):=k1.cell 4;have d5:w1.cell? ⟨w.heap.size,5,none⟩=some (.int .u32 0):=k1.cell 5;have d6:w1.cell? ⟨w.heap.size,6,none⟩=some (.int .u32 0):=k1.cell 6;have d7:w1.cell? ⟨w.heap.size,7,none⟩=some (.int .u32 0):=k1.cell 7;have d8:w1.cell? ⟨w.heap.size,8,none⟩=some (.string ⟨#[]⟩):=k1.cell 8;go_wp2;have rr:=(((((((((k1.set (o:=0) (.int .i64 0)).set (o:=1) (.int .i64 0)).set (o:=2) (.int .i64 0)).set (o:=3) (.int .i64 0)).set (o:=4) (.int .u32 0)).set (o:=5) (.int .u32 0)).set (o:=6) (.int .u32 0)).set (o:=7) (.int .u32 0)).set (o:=8) (.string ⟨#[]⟩)).cell;exact bodyPost_ret (v:=.tuple #[.agg #[.int .i64 0,.int .i64 0,.int .i64 0,.int .i64 0,.int .u32 0,.int .u32 0,.int .u32 0,.int .u32 0,.string ⟨#[]⟩],.int .i64 21]) (by simp [results,Tryz.results100,go_sem,rr]) rfl ⟨rfl,(zu (zu (zu (zu (zu (zu (zu (zu (zu aa (N0 _) _) (N0 _) _) (N0 _) _) (N0 _) _) (N0 _) _) (N0 _) _) (N0 _) _) (N0 _) _) (N0 _) _)⟩
