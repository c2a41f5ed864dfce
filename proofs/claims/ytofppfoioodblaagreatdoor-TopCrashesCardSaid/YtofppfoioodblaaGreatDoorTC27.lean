/- PARTS OF THE PROOF. -/
import Derived.Test.YtofppfoioodblaaGreatDoorTC26
set_option maxRecDepth 8000
set_option maxHeartbeats 4000000
open Go.Proofs.Tryz
namespace Go.Proofs.YtofppfoioodblaaGreatDoor
section
open Go Go.RowKit Go.Shelf Go.Extern.Stop Go.Stop Go.Extern
attribute [local go_sem] Oper.semAt_some zB zp
def zN(v:jw):List Value:=[.int .u64 (v.1:Nat),.int .u64 (v.2.1:Nat),.string (bs v.2.2)]
theorem YG(l:List jw):(l.flatMap zN).length=l.length*3:=by
 induction l with
 |nil=>rfl
 |cons m l ih=>simp [List.flatMap_cons,zN,ih];omega
def zG(pv:Value)(l:j8):List Value:=
 [.int .i64 l.inst,.int .u64 (l.ballot:Nat),.string (bs l.value),pv] ++(l.promised.map Value.bool++(l.voted.map Value.bool++ [.int .i64 (l.votes:Nat),.bool l.asked,.bool l.told]))
def YH(B:Nat)(l:j8)(t:List Nat)(ow:Own)(W:World):Prop:=
 l.promised.length=16/\l.voted.length=16/\∃pv,Blk W B (zG pv l).toArray 175/\Row W 317 3 pv l.promises.length (l.promises.flatMap zN)/\ow B=t/\∀g,pv.ownBlock=some g->ow g=t
theorem YH.loc(B:Nat)(l:j8)(t:List Nat):yI t (YH B l t):=by
 rintro ow ow' W W'⟨h1,h2,lv,hB,hR,o1,o2⟩ hs hk;have kB:=hk B hB.lt (by rw [o1];exact Sub.rfl' t);have kR:∀g,lv.ownBlock=some g->ow' g=ow g/\W'.heap[g]?=W.heap[g]?:=λg hg=>hk g (hR.lt hg) (by rw [o2 g hg];exact Sub.rfl' t)
 exact⟨h1,h2,lv,hB.kept kB.2,hR.kept (λg hg=>(kR g hg).2),kB.1.trans o1,λg hg=>(kR g hg).1.trans (o2 g hg)⟩
def j6(s:jN):List Value:=[.int .u64 (s.greatest:Nat),.int .i64 (s.accepted:Nat),.int .i64 (s.delivered:Nat),.bool s.stale,.bool s.lent]
def jf(h:xV):List Value:=[.int .i64 h.1,.int .i64 h.2.1,.int .i64 h.2.2.1.1,.int .u32 (h.2.2.1.2:Nat),.string (bs h.2.2.2)]
structure WK where
 fb:Nat
 lm:Nat
 hm:Nat
 dm:Nat
 bx:Nat
 nb:Nat
 nc:Nat
 sb:Nat
 nl:List Nat
def Vf(i:Int):Value:=.agg #[.int .i64 i]
def zhw(k:Nat):Value:=.int .u32 k
def zgZ(k:Int):Value:=.int .i64 k
def zek(bx:Nat):List (Int×Value):=[(1,.func (.func 45) #[] #[.pointer (some ⟨bx,0,none⟩)]),(2,.func (.func 47) #[] #[.pointer (some ⟨bx,0,none⟩)]),(3,.func (.func 49) #[] #[.pointer (some ⟨bx,0,none⟩)]),(4,.func (.func 51) #[] #[.pointer (some ⟨bx,0,none⟩)]),(5,.func (.func 53) #[] #[.pointer (some ⟨bx,0,none⟩)]),(6,.func (.func 55) #[] #[.pointer (some ⟨bx,0,none⟩)]),(7,.func (.func 57) #[] #[.pointer (some ⟨bx,0,none⟩)]),(8,.func (.func 59) #[] #[.pointer (some ⟨bx,0,none⟩)]),(9,.func (.func 61) #[] #[.pointer (some ⟨bx,0,none⟩)]),(10,.func (.func 63) #[] #[.pointer (some ⟨bx,0,none⟩)])]
def vK(l:List Nat):List Value:=l.map λb=>.pointer (some ⟨b,0,none⟩)
def xg(B:Nat)(K:WK)(tv:Value)(lp:Nat->Option Nat)(S:zf)(t:List Nat)(i:Nat):Own->World->Prop:=
 if i<16 then λow W=>∀m,S.nodes[i]?=some m->∃b,K.nl[i]?=some b/\jF b m (t++ [i]) ow W
 else if i=16 then jT K.fb S.last S.notes (t++ [i])
 else if i=17 then λow W=>ow K.lm=t++ [i] /\∃ps:List (Int×Value),(ps.map (·.1)).Nodup/\z6 W K.lm Vf ps/\∀j:Nat,zE (j:Int) ps=(lp j).map λb=>.pointer (some ⟨b,0,none⟩)
 else if i=18 then λow W=>ow K.hm=t++ [i] /\z6 W K.hm zhw (S.hurt.map λq=>(q.1,Jn))
 else if i=19 then λow W=>ow K.dm=t++ [i] /\ow K.bx=t++ [i] /\z6 W K.dm zgZ (zek K.bx)/\Blk W K.bx #[.pointer (some ⟨B,0,none⟩)] 24
 else if i=20 then λow W=>ow K.nb=t++ [i] /\K.nl.length=S.nodes.length/\Row W 43 1 (.slice (some ⟨K.nb,0,none⟩) S.nodes.length K.nc) S.nodes.length (vK K.nl)
 else if i=21 then λow W=>ow K.sb=t++ [i] /\S.seats.length=S.nodes.length/\Blk W K.sb (S.seats.flatMap j6).toArray 90
 else if i=22 then λow W=>(∀g,tv.ownBlock=some g->ow g=t++ [i])/\Row W 80 5 tv S.trace.length (S.trace.flatMap jf)
 else if i<32 then λ_ _=>True
 else λow W=>match lp (i - 32),zE ((i - 32:Nat):Int) S.leads with
  |none,none=>True
  |some b,some l=>YH b l (t++ [i]) ow W
  |_,_=>False
theorem ZX(B:Nat)(K:WK)(tv:Value)(lp:Nat->Option Nat)(S:zf)(t:List Nat)(i:Nat):yI (t++ [i]) (xg B K tv lp S t i):=by
 have kk:∀ {ow ow':Own} {W W':World},(∀k,k<W.heap.size->Sub (t++ [i]) (ow k)->ow' k=ow k/\W'.heap[k]?=W.heap[k]?)->∀k,k<W.heap.size->ow k=t++ [i] ->ow' k=ow k/\W'.heap[k]?=W.heap[k]?:=λhk k h1 h2=>hk k h1 (by rw [h2];exact Sub.rfl' _)
 unfold xg
 split
 ·intro ow ow' W W' h hs hk m hm
  obtain⟨b,hb,hN⟩:=h m hm;exact⟨b,hb,jF.loc b m _ _ _ _ _ hN hs hk⟩
 split
 ·exact jT.loc _ _ _ _
 split
 ·intro ow ow' W W' ⟨o,ps,hd,hM,hl⟩ hs hk
  have:=kk hk _ hM.lt o;exact⟨this.1.trans o,ps,hd,hM.kept this.2,hl⟩
 split
 ·intro ow ow' W W' ⟨o,hM⟩ hs hk
  have:=kk hk _ hM.lt o;exact⟨this.1.trans o,hM.kept this.2⟩
 split
 ·intro ow ow' W W' ⟨o,o2,hM,hB⟩ hs hk
  have k1:=kk hk _ hM.lt o;have k2:=kk hk _ hB.lt o2;exact⟨k1.1.trans o,k2.1.trans o2,hM.kept k1.2,hB.kept k2.2⟩
 split
 ·intro ow ow' W W' ⟨o,hl,hR⟩ hs hk
  have k1:=kk hk _ (hR.lt (g:=K.nb) rfl) o;exact⟨k1.1.trans o,hl,hR.kept (λg hg=>by cases hg;exact k1.2)⟩
 split
 ·intro ow ow' W W' ⟨o,hl,hB⟩ hs hk
  have k1:=kk hk _ hB.lt o;exact⟨k1.1.trans o,hl,hB.kept k1.2⟩
 split
 ·intro ow ow' W W' ⟨o,hR⟩ hs hk
  exact⟨λg hg=>(kk hk g (hR.lt hg) (o g hg)).1.trans (o g hg),hR.kept (λg hg=>(kk hk g (hR.lt hg) (o g hg)).2)⟩
 split
 ·intro ow ow' W W' h hs hk;trivial
 cases h1:lp (i - 32)<;>cases h2:zE ((i - 32:Nat):Int) S.leads
 ·intro ow ow' W W' h hs hk;trivial
 ·intro ow ow' W W' h hs hk;exact h
 ·intro ow ow' W W' h hs hk;exact h
 exact YH.loc _ _ _
structure zl(B:Nat)(K:WK)(tv:Value)(lp:Nat->Option Nat)(S:zf)(t:List Nat)(ow:Own)(W:World):Prop where
 blk:Blk W B #[.slice (some ⟨K.nb,0,none⟩) S.nodes.length K.nc,.slice (some ⟨K.sb,0,none⟩) S.nodes.length S.nodes.length,.map (some K.lm),.pointer (some ⟨K.fb,0,none⟩),.map (some K.hm),.map (some K.dm),tv] 65
 own:ow B=t
 part:∀i,xg B K tv lp S t i ow W
theorem zl.loc(B:Nat)(K:WK)(tv:Value)(lp:Nat->Option Nat)(S:zf)(t:List Nat):yI t (zl B K tv lp S t):=by
 intro ow ow' W W' h hs hk;have kB:=hk B h.blk.lt (by rw [h.own];exact Sub.rfl' t);exact⟨h.blk.kept kB.2,kB.1.trans h.own,λi=>ZX B K tv lp S t i _ _ _ _ (h.part i) hs (λk a b=>hk k a ((Sub.child t i).trans b))⟩
def zI(B:Nat)(K:WK)(S:zf)(t:List Nat)(ow:Own)(W:World):Prop:=∃tv lp,zl B K tv lp S t ow W
theorem zI.loc(B:Nat)(K:WK)(S:zf)(t:List Nat):yI t (zI B K S t):=by
 rintro ow ow' W W'⟨tv,lp,h⟩ hs hk;exact⟨tv,lp,zl.loc B K tv lp S t _ _ _ _ h hs hk⟩
def xK(B:Nat)(K:WK)(S:zf)(t:List Nat)(ow:Own)(w:World)(v:Value)(e:Ending)(w':World):Prop:=
 e=.returned v/\∃ow',zt t ow w ow' w'/\zI B K S t ow' w'
variable {B:Nat}{K:WK}{tv tv':Value}{lp lp':Nat->Option Nat}{S S':zf}{t:List Nat}{ow ow':Own}{W W':World}
theorem zl.setPart(h:zl B K tv lp S t ow W)(i:Nat)(hs:zt (t++ [i]) ow W ow' W')(hn:S'.nodes.length=S.nodes.length)(he:∀j,j≠i->xg B K tv lp' S' t j=xg B K tv lp S t j)(hi:xg B K tv lp' S' t i ow' W'):zl B K tv lp' S' t ow' W':=
 ⟨by rw [hn];exact h.blk.kept (hs.block h.blk.lt (qU t i h.own)),(hs.agree B h.blk.lt).trans h.own,λj=>by
  by_cases hj:j=i
  ·rw [hj];exact hi
  rw [he j hj];exact(ZX B K tv lp S t j).step (h.part j) hs (zS t (Ne.symm hj))⟩
theorem zl.node(h:zl B K tv lp S t ow W){i:Nat}{m:zr}(hi:i<16)(hm:S.nodes[i]?=some m):∃b,K.nl[i]?=some b/\jF b m (t++ [i]) ow W:=by
 have:=h.part i;unfold xg at this;rw [if_pos hi] at this;exact this m hm
theorem zl.flight(h:zl B K tv lp S t ow W):jT K.fb S.last S.notes (t++ [16]) ow W:=h.part 16
theorem zl.leadsM(h:zl B K tv lp S t ow W):ow K.lm=t++ [17] /\∃ps:List (Int×Value),(ps.map (·.1)).Nodup/\z6 W K.lm Vf ps/\∀j:Nat,zE (j:Int) ps=(lp j).map λb=>.pointer (some ⟨b,0,none⟩):=h.part 17
theorem zl.hurtM(h:zl B K tv lp S t ow W):ow K.hm=t++ [18] /\z6 W K.hm zhw (S.hurt.map λq=>(q.1,Jn)):=h.part 18
theorem zl.does(h:zl B K tv lp S t ow W):ow K.dm=t++ [19] /\ow K.bx=t++ [19] /\z6 W K.dm zgZ (zek K.bx)/\Blk W K.bx #[.pointer (some ⟨B,0,none⟩)] 24:=h.part 19
theorem zl.nrow(h:zl B K tv lp S t ow W):ow K.nb=t++ [20] /\K.nl.length=S.nodes.length/\Row W 43 1 (.slice (some ⟨K.nb,0,none⟩) S.nodes.length K.nc) S.nodes.length (vK K.nl):=h.part 20
theorem zl.srow(h:zl B K tv lp S t ow W):ow K.sb=t++ [21] /\S.seats.length=S.nodes.length/\Blk W K.sb (S.seats.flatMap j6).toArray 90:=h.part 21
theorem zl.trow(h:zl B K tv lp S t ow W):(∀g,tv.ownBlock=some g->ow g=t++ [22])/\Row W 80 5 tv S.trace.length (S.trace.flatMap jf):=h.part 22
theorem zl.lead(h:zl B K tv lp S t ow W)(i:Nat):match lp i,zE (i:Int) S.leads with
 |none,none=>True
 |some b,some l=>YH b l (t++ [i+32]) ow W
 |_,_=>False:=by
 have:=h.part (i+32);unfold xg at this;rw [if_neg (by omega),if_neg (by omega),if_neg (by omega),if_neg (by omega),if_neg (by omega),if_neg (by omega),if_neg (by omega),if_neg (by omega),if_neg (by omega),Nat.add_sub_cancel] at this;exact this
theorem zl.setNode(h:zl B K tv lp S t ow W){i b:Nat}{m:zr}(hi:i<16)(hb:K.nl[i]?=some b)(hs:zt (t++ [i]) ow W ow' W')(hN:jF b m (t++ [i]) ow' W'):zl B K tv lp (setNode S i m) t ow' W':=by
 refine h.setPart i hs (by simp [Go.Proofs.YtofppfoioodblaaGreatDoor.setNode]) (λj hj=>?_) ?_
 ·unfold xg Go.Proofs.YtofppfoioodblaaGreatDoor.setNode
  simp only [List.getElem?_set_ne (Ne.symm hj),List.length_set]
 unfold xg Go.Proofs.YtofppfoioodblaaGreatDoor.setNode
 rw [if_pos hi];intro m' hm'
 have hl:i<S.nodes.length:=by
  have:=(N6.1 hm').1
  simpa using this
 simp only [List.getElem?_set_self hl,Option.some.injEq] at hm';subst hm';exact⟨b,hb,hN⟩
theorem zl.setFlight(h:zl B K tv lp S t ow W){last:Nat}{notes:List zf5}(hs:zt (t++ [16]) ow W ow' W')(hN:jT K.fb last notes (t++ [16]) ow' W'):zl B K tv lp {S with last:=last,notes:=notes} t ow' W':=by
 refine h.setPart 16 hs rfl (λj hj=>?_) hN;unfold xg;simp only [if_neg hj]
end
open Go Go.RowKit Go.Shelf Go.Extern.Stop Go.Stop Go.Extern
attribute [local go_sem] Oper.semAt_some zB zp
def zg0(k:Int×Int):Value:=.agg #[.int .i64 k.1,.int .i64 k.2]
theorem zlH(n:Nat)(b:Bool)(x y:Int)(w:World):(Instr.checkKey b (n+1+1) 383 (.agg #[.int .i64 x,.int .i64 y])).run prog w=.ok () w:=by
 simp [Instr.checkKey,go_sem,List.range',Tryz.sizeOf3,Tryz.isAgg3]
theorem zmi(n:Nat)(a b c d:Int)(w:World):(Op.equalIn (n+1+1) 383 (.agg #[.int .i64 a,.int .i64 b]) (.agg #[.int .i64 c,.int .i64 d])).run prog w=.ok (decide (a=c/\b=d)) w:=by
 simp [Op.equalIn,go_sem,List.range',Tryz.sizeOf3,Tryz.isAgg3]
 by_cases h1:a=c<;>by_cases h2:b=d<;>simp [h1,h2]
theorem zcP:qt prog 383 zg0 where
 eq:=λk k' w=>by
  obtain⟨a,b⟩:=k;obtain⟨c,d⟩:=k';have h:(Op.equal 383 (zg0 (a,b)) (zg0 (c,d))).run prog w=(Op.equalIn 10000 383 (.agg #[.int .i64 a,.int .i64 b]) (.agg #[.int .i64 c,.int .i64 d])).run prog w:=rfl;rw [h];rw [zmi 9998];simp [Prod.ext_iff]
 chk:=λb k w=>zlH 9998 b k.1 k.2 w
 bits:=λk=>by simp [zg0,Instr.sameBits]
 now:=⟨_,Tryz.underlying383,λk k'=>by left;rfl⟩
theorem zg1(w:World):Calls prog 243 #[] w λe w'=>∃(mb:Nat)(l:List ((Int×Int)×Value)),e=.returned (.map (some mb))/\Below w.heap.size w w'/\z6 w' mb zg0 l/\zE (1,1) l=some (.int .i64 1):=by
 have aa:= @run_makeMap prog
 go_enter func243,ntmps243
 go_wp2_with fail
 refine xF [O 1,O 3,O 5,O 7,E 0] none zcv #[true,true,false,true,false,true,false,true,false,false,false] (m:=6) (by kernel_rfl) (by kernel_rfl) trivial ?_
 refine Wr ?_
 refine yP rfl (by simp) (λK hK=>?_);go_wp2;refine hK.out _ _ trivial ?_;clear hK K;refine jM (λ_=>?_);have hM:z6 (w.alloc (.map #[] 0)).drew w.heap.size zg0 []:=(z6.made w zg0).kept rfl;refine zlD (m:=2) (mb:=w.heap.size) (enc:=zg0) [2,4,6,8] (λi=>if i=2 then((1,1),.int .i64 1)else if i=4 then((1,2),.int .i64 1)else if i=6 then((2,1),.int .i64 1)else((2,2),.int .i64 2)) (by kernel_rfl) (by decide) w (N0 _) (zq (zi (N2 _ _) _)) hM ?_ ?_
 ·intro i hi W l hM
  simp only [List.mem_cons,List.mem_nil_iff,or_false] at hi
  rcases hi with rfl|rfl|rfl|rfl
  ·
    refine yU rfl (λK hK=>?_);obtain⟨o,hu,hM⟩:=hM.update zcP Tryz.underlying381 ((1,1):Int×Int) (.int .i64 1);unfold zg0 at hu;go_wp2;exact hK.out _ _ ⟨rfl,⟨_,rfl⟩,hM⟩
  ·
    refine yU rfl (λK hK=>?_);obtain⟨o,hu,hM⟩:=hM.update zcP Tryz.underlying381 ((1,2):Int×Int) (.int .i64 1);unfold zg0 at hu;go_wp2;exact hK.out _ _ ⟨rfl,⟨_,rfl⟩,hM⟩
  ·
    refine yU rfl (λK hK=>?_);obtain⟨o,hu,hM⟩:=hM.update zcP Tryz.underlying381 ((2,1):Int×Int) (.int .i64 1);unfold zg0 at hu;go_wp2;exact hK.out _ _ ⟨rfl,⟨_,rfl⟩,hM⟩
  
  refine yU rfl (λK hK=>?_);obtain⟨o,hu,hM⟩:=hM.update zcP Tryz.underlying381 ((2,2):Int×Int) (.int .i64 2);unfold zg0 at hu;go_wp2;exact hK.out _ _ ⟨rfl,⟨_,rfl⟩,hM⟩
 intro W l hM hl hb
 refine qV [O 9,O 10] (by kernel_rfl) (λ_=>trivial) ?_
 refine Wr ?_
 refine jM ?_;go_wp2;go_ret
 exact⟨_,_,rfl,hb,hM,hl 2 (by simp)⟩
theorem Vg(w:World):Calls prog 194 #[.int .i64 1,.int .i64 1] w λe w'=>e=.returned (.tuple #[.int .i64 1,.int .i64 0])/\Below w.heap.size w w':=by
 go_enter func194,ntmps194
 go_wp2_with fail
 refine(zg1 _).mono ?_;rintro e w1⟨mb,l,rfl,ac,hM,hl⟩;have aa:=hM.lookup_ok zcP Tryz.underlying381 (z:=.int .i64 0) (by kernel_rfl) (1,1);rw [hl] at aa;simp only [Option.getD_some,Option.isSome_some] at aa;unfold zg0 at aa;clear hM hl;go_wp2;go_ret2
 exact⟨rfl,ac⟩
def J5(kind src dst:Int)(d:List UInt8):Value:=.agg #[.int .i64 1,.int .i64 kind,.int .i64 src,.int .i64 dst,.int .u32 0,.int .u32 0,.int .u32 0,.int .u32 0,.string (bs d)]
def zmv(kind src dst:Int)(d:List UInt8):Array Value:=#[.int .i64 1,.int .i64 kind,.int .i64 src,.int .i64 dst,.int .u32 0,.int .u32 0,.int .u32 0,.int .u32 0,.string (bs d)]
theorem zmj(n:Nat)(k s d:Int)(b:ByteArray)(w:World):(Op.equalIn (n+1+1) 182 (.agg #[.int .i64 1,.int .i64 k,.int .i64 s,.int .i64 d,.int .u32 0,.int .u32 0,.int .u32 0,.int .u32 0,.string b]) (.agg #[.int .i64 1,.int .i64 k,.int .i64 s,.int .i64 d,.int .u32 0,.int .u32 0,.int .u32 0,.int .u32 0,.string b])).run prog w=.ok true w:=by
 simp [go_sem]
theorem zg2(k s d:Int)(b:List UInt8)(w:World):Calls prog 245 #[J5 k s d b,.int .i64 1] w λe w'=>e=.returned (J5 k s d b)/\Below w.heap.size w w':=by
 unfold J5
 go_enter func245,ntmps245
 go_wp2;exact bodyPost_ret (v:=.agg #[.int .i64 1,.int .i64 k,.int .i64 s,.int .i64 d,.int .u32 0,.int .u32 0,.int .u32 0,.int .u32 0,.string (bs b)]) (by simp [results,Tryz.results245,go_sem]) rfl ⟨rfl,pbx⟩
theorem zlI(k s d:Int)(b:ByteArray)(w:World):(binOp .eql 182 (.agg #[.int .i64 1,.int .i64 k,.int .i64 s,.int .i64 d,.int .u32 0,.int .u32 0,.int .u32 0,.int .u32 0,.string b]) (.agg #[.int .i64 1,.int .i64 k,.int .i64 s,.int .i64 d,.int .u32 0,.int .u32 0,.int .u32 0,.int .u32 0,.string b])).run prog w=.ok (.bool true) w:=by
 have h:(Op.equalIn Op.maxDepth 182 (.agg #[.int .i64 1,.int .i64 k,.int .i64 s,.int .i64 d,.int .u32 0,.int .u32 0,.int .u32 0,.int .u32 0,.string b]) (.agg #[.int .i64 1,.int .i64 k,.int .i64 s,.int .i64 d,.int .u32 0,.int .u32 0,.int .u32 0,.int .u32 0,.string b])).run prog w=.ok true w:=zmj 9998 k s d b w;simp [binOp,Op.equal,h,Result.andThen,go_sem]
theorem zar(k s d:Int)(b:List UInt8)(hk:0<=k/\k<=31)(hs:0<=s/\s<16)(hd:0<=d/\d<16)(w:World):Calls prog 196 #[J5 k s d b] w λe w'=>e=.returned (.bool (decide (b.length<=4096)))/\Below w.heap.size w w':=by
 have ac:=λW=>zg2 k s d b W
 have ad:=zL b;have af:=λW=>zlI k s d (bs b) W
 unfold J5 at ac⊢;have t1:decide (k<0)=false:=by simp;omega
 have t2:decide (31<k)=false:=by simp;omega
 have t3:decide (s<0)=false:=by simp;omega
 have t4:decide (16<=s)=false:=by simp;omega
 have t5:decide (d<0)=false:=by simp;omega
 have t6:decide (16<=d)=false:=by simp;omega
 have kB:=Blk.new (w:=w) (b:=w.heap.size) (cs:=#[.int .i64 1,.int .i64 k,.int .i64 s,.int .i64 d,.int .u32 0,.int .u32 0,.int .u32 0,.int .u32 0,.string (bs b)]) (t:=182) rfl;replace ac:=hid ac;replace af:=hid af;replace ad:=hid ad;clear hk hs hd
 by_cases hl:b.length<=4096
 ·have t7:decide ((4096:Int)<((bs b).size:Int))=false:=by rw [ad.out];simp;omega
  rw [show decide (b.length<=4096)=true by simpa using hl];replace hl:=hid hl
  go_enter func196,ntmps196
  go_wp2_with fail
  refine(Vg _).mono ?_;rintro e w1⟨rfl,ae⟩;have k1:=kB.call ae;have c1:=k1.cell;have aa:Below w.heap.size w w1:=pbx;go_wp2_with fail
  clear c1;refine zd [O 0,O 1,O 2,O 3,E 4,O 5,O 6] none (λw'=>Blk w' w.heap.size #[.int .i64 1,.int .i64 k,.int .i64 s,.int .i64 d,.int .u32 0,.int .u32 0,.int .u32 0,.int .u32 0,.string (bs b)] 182/\True) ⟨k1.drew,trivial⟩ ?_
  refine Wb ?_
  refine zc rfl (λK hK=>?_);go_wp2_with fail
  refine(ac.out _).mono ?_;rintro e w2⟨rfl,ah⟩;have k2:=k1.drew.call ah;have ag:=zh (zq aa) ah;go_wp2;refine hK.out _ _ (λ_=>⟨k2,trivial⟩) ?_;clear hK K;have ai:=af.out
  refine Wb ?_
  refine ze ?_;go_wp2;go_ret
  exact⟨rfl,ag⟩
 have t7:decide ((4096:Int)<((bs b).size:Int))=true:=by rw [ad.out];simp;omega
 rw [show decide (b.length<=4096)=false by simpa using hl];replace hl:=hid hl
 go_enter func196,ntmps196
 go_wp2_with fail
 refine(Vg _).mono ?_;rintro e w1⟨rfl,ae⟩;have k1:=kB.call ae;have c1:=k1.cell;have aa:Below w.heap.size w w1:=pbx;go_wp2;go_ret
 exact⟨rfl,aa⟩
def zmY(l:List Nat):List Value:=l.map λ(n:Nat)=>.int .u32 n
theorem zfr(s:List UInt8)(b:Nat)(ns:List Nat)(w:World)(hv:Src w (.slice (some ⟨b,0,none⟩) ns.length ns.length) 1 ns.length (zmY ns))(hn:ns.length<=10)(hs:s.length<=100000):
 Calls prog 240 #[.string (bs s),.slice (some ⟨b,0,none⟩) ns.length ns.length] w λe w'=>e=.returned (.string (bs (s++ns.flatMap le4)))/\Below w.heap.size w w':=by
 have ac:∀k,((ns.take k).flatMap le4).length<=40:=λk=>by
  have h:∀l:List Nat,(l.flatMap le4).length=4*l.length:=λl=>by
   induction l with
   |nil=>rfl
   |cons a l ih=>rw [List.flatMap_cons,N1,ih,jd,List.length_cons];omega
  rw [h,N7];omega
 replace ac:=hid ac
 go_enter func240,ntmps240
 go_wp2
 go_loopw [0,9] (λp0 p9 wr=>∃k:Nat,p0=.string (bs (s++(ns.take k).flatMap le4))/\p9=.int .i64 (k:Nat)/\k<=ns.length/\Below w.heap.size w wr) (λ_ p9 _=>ns.length - (intOf p9).toNat)
 case atStart=>exact⟨0,by simp,rfl,by omega,N2 _ _⟩
 case round=>
  obtain⟨k,rfl,rfl,hk,ad⟩:=hrel
  by_cases hkl:k<ns.length
  ·have t2:decide ((k:Int)<(ns.length:Int))=true:=by simpa using hkl
   have ah:IntKind.i64.wrap ((k:Int)+1)=(k:Int)+1:=by rw [N8];omega
   obtain⟨x,hx⟩:∃x,ns[k]?=some x:=⟨_,N3 hkl⟩;have y0:(0:Int)<=(k:Int):=by omega
   have y1:(k:Int)<(ns.length:Int):=by omega
   have c0:wr.cell? ⟨b,k,none⟩=some (.int .u32 x):=by
    rcases(hv.below ad).2 with⟨h, -⟩|⟨b',off,cap,h, -,hr⟩
    ·cases h
    cases h
    have:=hr k (.int .u32 x) (by unfold zmY;rw [List.getElem?_map,hx];rfl)
    rwa [Nat.zero_add] at this
   have aa:=JA (s++(ns.take k).flatMap le4) (le4 x) (by rw [N1,jd];have:=ac.out k;omega)
   have ae:s++(ns.take (k+1)).flatMap le4=s++(ns.take k).flatMap le4++le4 x:=by
    rw [List.take_add_one,hx];simp [List.flatMap_append]
   rw [← ae] at aa;replace ae:=hid ae;replace hx:=hid hx;replace aa:=hid aa;go_wp2_with fail
   refine(y9 _ _).mono ?_;rintro e w1⟨rfl,ag⟩;have af:=aa.out w1;clear c0;go_wp2
   go_roundw
   case rel=>exact⟨k+1,rfl,by simp,by omega,zh ad ag⟩
   case measure=>simp [intOf];omega
  obtain rfl:k=ns.length:=by omega
  have t2:decide ((ns.length:Int)<(ns.length:Int))=false:=by simp
  rw [List.take_length] at*;go_wp2;go_ret
  exact⟨rfl,ad⟩
theorem zkE:∀s<16,∀d<16,bits .or .i64 ((s*16:Nat):Int) ((d:Nat):Int)=((s*16+d:Nat):Int):=by decide
theorem zmE(k x:UInt8)(W:World):(convert 49 9 (.slice (some ⟨W.heap.size,0,none⟩) 4 4)).run prog (W.alloc (.cells #[.int .u8 72,.int .u8 1,.int .u8 (k.toNat:Int),.int .u8 (x.toNat:Int)] 5))=.ok (.string (bs [72,1,k,x])) (W.alloc (.cells #[.int .u8 72,.int .u8 1,.int .u8 (k.toNat:Int),.int .u8 (x.toNat:Int)] 5)):=by
 have hk:=run_convert_bytes_arg (P:=prog) (W.alloc (.cells #[.int .u8 72,.int .u8 1,.int .u8 (k.toNat:Int),.int .u8 (x.toNat:Int)] 5)) 49 5 Tryz.underlying49 Tryz.underlying5 W.heap.size 0 4 4 [72,1,(k.toNat:Int),(x.toNat:Int)] rfl (λi hi=>by
  obtain rfl|rfl|rfl|rfl:i=0∨i=1∨i=2∨i=3:=by have:i<4:=hi;omega
  all_goals (rw [(Blk.new (w:=W) rfl).cell];rfl)) 9 Tryz.underlying9
 rw [hk];have h:strOfNums [72,1,(k.toNat:Int),(x.toNat:Int)]=bs [72,1,k,x]:=by unfold strOfNums bs;simp
 rw [h]
theorem zbd {k s d:Nat}{b:List UInt8}(hk:k<=31)(hs:s<16)(hd:d<16):qO (qQ k s d b)=if b.length<=4096 then(Zb (([72,1,vi k,vi (s*16+d:Nat)] ++ [0,0,0].flatMap le4)++ [b.length].flatMap le4++b),0)else([],20):=by
 by_cases hb:b.length<=4096
 ·rw [if_pos hb]
  have hr:=zcc (kind:=(k:Int)) (src:=(s:Int)) (dst:=(d:Int)) (data:=b) (by omega) (by omega) (by omega) (by omega) (by omega) (by omega) hb;unfold qO;rw [if_neg (by rw [hr];simp)];rfl
 rw [if_neg hb]
 unfold qO;rw [if_pos (by unfold Yn qQ;simp;omega)]
theorem zmF(s:List UInt8)(hs:s.length<=100000)(b:Nat)(W:World)(hB:Blk W b #[.int .u32 0,.int .u32 0,.int .u32 0] 35):Calls prog 240 #[.string (bs s),.slice (some ⟨b,0,none⟩) 3 3] W λe w'=>e=.returned (.string (bs (s++ [0,0,0].flatMap le4)))/\Below W.heap.size W w':=
 zfr s b [0,0,0] W (jP (n:=3) (size:=1) (cap:=3) hB rfl (N0 3)) (by simp) hs
theorem zmG(s:List UInt8)(hs:s.length<=100000)(n b:Nat)(W:World)(hB:Blk W b #[.int .u32 (n:Nat)] 35):Calls prog 240 #[.string (bs s),.slice (some ⟨b,0,none⟩) 1 1] W λe w'=>e=.returned (.string (bs (s++ [n].flatMap le4)))/\Below W.heap.size W w':=
 zfr s b [n] W (jP (n:=1) (size:=1) (cap:=1) hB rfl (N0 1)) (by simp) hs
theorem zel(k s d:Nat)(b:List UInt8)(hk:k<=31)(hs:s<16)(hd:d<16)(hb:b.length<=1000000)(w:World):Calls prog 190 #[J5 k s d b] w λe w'=>e=.returned (.tuple #[.string (bs (qO (qQ k s d b)).1),.int .i64 (qO (qQ k s d b)).2])/\Below w.heap.size w w':=by
 have aa:=λW=>zar k s d b ⟨by omega,by omega⟩ ⟨by omega,by omega⟩ ⟨by omega,by omega⟩ W
 have au:=zL b;rw [zbd hk hs hd];unfold J5 at aa⊢;have kB:=Blk.new (w:=w) (b:=w.heap.size) (cs:=#[.int .i64 1,.int .i64 k,.int .i64 s,.int .i64 d,.int .u32 0,.int .u32 0,.int .u32 0,.int .u32 0,.string (bs b)]) (t:=182) rfl;have a3:=zkE s hs d hd;have a6:IntKind.i64.wrap ((s:Int)*16)=((s*16:Nat):Int):=by rw [N8];omega
 have ar:=xt (i:=(k:Int)) (by omega) (by omega);have ao:=xt (i:=((s*16+d:Nat):Int)) (by omega) (by omega);have a1:IntKind.u8.wrap (k:Int)=((vi k).toNat:Int):=by rw [IntKind.wrap_u8,ar];omega
 have a5:IntKind.u8.wrap ((s*16+d:Nat):Int)=((vi (s*16+d:Nat)).toNat:Int):=by rw [IntKind.wrap_u8,ao];omega
 generalize vi (k:Int)=kb at*
 generalize vi ((s*16+d:Nat):Int)=xb at*
 generalize s*16+d=sd at*
 generalize s*16=s16 at*
 replace au:=hid au;replace ar:=hid ar;replace ao:=hid ao;clear hk hs hd
 by_cases hl:b.length<=4096
 ·rw [if_pos hl]
  simp only [show decide (b.length<=4096)=true by simpa using hl] at aa;replace aa:=hid aa;obtain⟨s1,ad⟩:∃s1,[72,1,kb,xb]=s1:=⟨_,rfl⟩;obtain⟨s2,af⟩:∃s2,s1++ [0,0,0].flatMap le4=s2:=⟨_,rfl⟩;obtain⟨s3,ai⟩:∃s3,s2++ [b.length].flatMap le4=s3:=⟨_,rfl⟩;have ac:s3.length=20:=by rw [← ai,← af,← ad];simp [le4]
  have aj:=λb W hW=>zmF s1 (by rw [← ad];simp) b W hW
  have ak:=λc W hW=>zmG s2 (by rw [← af,← ad];simp [le4]) b.length c W hW
  rw [af] at aj;rw [ai] at ak;have am:=λW=>ze9 (s3++b) (by rw [N1];omega) W
  have an:=JA s3 b (by omega);have aw:=λW=>zmE kb xb W
  rw [ad,af,ai];simp only [ad] at aw;replace ad:=hid ad;replace af:=hid af;replace ai:=hid ai;replace ac:=hid ac;have a4:(b.length:Int)% 4294967296=(b.length:Int):=by omega
  have ay:=au.out;replace hl:=hid hl;replace aj:=hid aj;replace ak:=hid ak;replace am:=hid am;replace an:=hid an;replace hb:=hid hb
  go_enter func190,ntmps190
  go_wp2_with fail
  refine(aa.out _).mono ?_;rintro e w1⟨rfl,ap⟩;have k1:=kB.call ap;have c1:=k1.cell;have l1:=k1.lt;have ae:Below w.heap.size w w1:=pbx;have az:=aw w1;go_wp2_with fail
  refine(aj.out _ _ (Blk.new (by simp))).mono ?_;rintro e w2⟨rfl,a2⟩;have ag:Below w1.heap.size w1 w2:=pbx;have k2:=k1.call ag;have c2:=k2.cell;have l2:=k2.lt;have aq:=zh ae ag;clear c1 l1;go_wp2_with fail
  refine zd [O 0,O 1,O 2,O 3,O 4,O 7,O 8,E 5,E 6,O 9,E 10,O 11,O 12] none (λw'=>Blk w' w.heap.size #[.int .i64 1,.int .i64 k,.int .i64 s,.int .i64 d,.int .u32 0,.int .u32 0,.int .u32 0,.int .u32 0,.string (bs b)] 182/\True) ⟨k2.drew,trivial⟩ ?_;clear c2
  refine Wb ?_
  refine zc rfl (λK hK=>?_);go_wp2;refine hK.out _ _ (λ_=>⟨(k2.drew.alloc _),trivial⟩) ?_;clear hK K;refine zc rfl (λK hK=>?_);go_wp2_with fail
  refine(ak.out _ _ ((Blk.new rfl).drew)).mono ?_;rintro e w3⟨rfl,a7⟩;have ah:Below w2.heap.size w2 w3:=pbx;have k3:=k2.call ah;have al:=zh aq ah;go_wp2;refine hK.out _ _ (λ_=>⟨k3,trivial⟩) ?_;clear hK K;have a0:=an.out
  refine Wb ?_
  refine zc rfl (λK hK=>?_);go_wp2_with fail
  refine(am.out _).mono ?_;rintro e w4⟨rfl,ax⟩;go_wp2;refine hK.out _ _ (λ_=>⟨k3.call ax,trivial⟩) ?_;clear hK K
  refine Wb ?_
  refine ze ?_;go_wp2;go_ret2
  exact⟨rfl,zh al ax⟩
 rw [if_neg hl]
 simp only [show decide (b.length<=4096)=false by simpa using hl] at aa;replace aa:=hid aa;replace hl:=hid hl;replace hb:=hid hb
 go_enter func190,ntmps190
 go_wp2_with fail
 refine(aa.out _).mono ?_;rintro e w1⟨rfl,ap⟩;have k1:=kB.call ap;have c1:=k1.cell;have l1:=k1.lt;have ae:Below w.heap.size w w1:=pbx;go_wp2;go_ret2
 exact⟨rfl,ae⟩
theorem zem(s:ByteArray)(w:World):Calls prog 195 #[.string s] w λe w'=>
 e=.returned (.func (.func 244) #[] #[.pointer (some ⟨w.heap.size,0,none⟩)])/\w'=w.alloc (.cells #[.string s] 9):=by
 go_enter func195,ntmps195
 go_wp2;go_ret
 exact⟨rfl,rfl⟩
theorem zg3(d:List UInt8)(a n:Nat):(bs d).extract a (a+n)=bs ((d.drop a).take n):=by
 apply ByteArray.ext
 rw [ByteArray.data_extract];unfold bs;simp only [List.extract_toArray,List.extract_eq_take_drop,Nat.add_sub_cancel_left]
theorem zi3(cb:Nat)(l:List UInt8)(hlen:l.length<=1000000):
 Qr Fence.wide 2 prog 244 #[.pointer (some ⟨cb,0,none⟩)] (λx:Nat×Nat=> #[.int .i64 (x.1:Nat),.int .u32 (x.2:Nat)])
  (λ(k:Nat) x=>k<l.length / 4/\x.1=k/\x.2=yy ((l.drop (4*k)).take 4)) (λk _=>k+1) (λk=>k=l.length / 4)
  (λ_ W=>Blk W cb #[.string (bs l)] 9) 0:=by
 intro lp J Jx W hJ hJx hRd hY h0;have r0:=hRd _ _ _ h0;have e0:=r0.cell;have hF:Fence.wide.fn 244:=trivial;have aj:Fence.wide.round=none:=rfl;have am:=zL l;have hq:((l.length:Int)).tdiv 4=((l.length / 4:Nat):Int):=by rw [Int.tdiv_eq_ediv_of_nonneg (by omega)];omega
 obtain⟨m,hm⟩:∃m,l.length / 4=m:=⟨_,rfl⟩;rw [hm] at hq hY⊢;have al:4*m<=l.length:=by omega
 clear r0;replace hm:=hid hm;refine callsIn_of_wp func244 rfl hF ?_ aj;simp only [ntmps244,R8,Nat.reduceAdd,Nat.reduceSub]
 gi_wp2
 gi_loopw [9] (λp wr=>∃(k:Nat)(X:Nat->Prop),p=.int .i64 (k:Int)/\k<=m/\J k X wr) (λp _=>m - (intOf p).toNat)
 case atStart=>exact⟨0,_,rfl,Nat.zero_le _,h0⟩
 case round=>
  obtain⟨k,X,rfl,hk,af⟩:=hrel;clear e0
  by_cases hlt:k<m
  ·have t2:decide ((k:Int)<(m:Int))=true:=by simpa using hlt
   have e1:=(hRd _ _ _ af).cell;have hx:=zg3 l (4*k) 4;have aa:=λW=>ql ((l.drop (4*k)).take 4) (by rw [N7];omega) W
   have ac:((l.drop (4*k)).take 4).length=4:=by rw [N7,U3];omega
   unfold zlt at aa;simp only [ac,if_pos] at aa;have w3:IntKind.i64.wrap ((k:Int)+1)=(k:Int)+1:=by rw [N8];omega
   have ae:=λW' ag=>hY k (k,yy ((l.drop (4*k)).take 4)) X W' ag ⟨hlt,rfl,rfl⟩
   generalize(l.drop (4*k)).take 4=wd at*
   obtain⟨p,hp⟩:∃p,4*k=p:=⟨_,rfl⟩;obtain⟨q,ad⟩:∃q,p+4=q:=⟨_,rfl⟩;have w0:4*(k:Int)=(p:Int):=by omega
   have w1:IntKind.i64.wrap (p:Int)=(p:Int):=by rw [N8];omega
   have w2:IntKind.i64.wrap ((p:Int)+4)=(q:Int):=by rw [N8];omega
   have y0:(0:Int)<=(p:Int):=by omega
   have y1:(p:Int)<=(q:Int):=by omega
   have y2:(q:Int)<=(l.length:Int):=by omega
   rw [hp,ad] at hx;replace hp:=hid hp;replace ad:=hid ad;replace ae:=hid ae;replace aa:=hid aa;replace ac:=hid ac
   gi_wp2_with fail
   refine(callsIn_wide.2 (aa.out _)).mono ?_;rintro e w1⟨rfl,ai⟩;have ah:J k X w1:=hJ _ _ _ _ _ af (Mod.of_below X ai) (λk h=>.inl h);obtain⟨fn,tmps,assign,body,hy,hR⟩:=ae.out w1 ah;clear e1
   gi_wp2
   refine hR.mono ?_;rintro e W'(⟨rfl,ag, -⟩|⟨rfl,ak⟩)
   ·clear hR hy
    gi_wp2
    go_roundw
    case rel=>exact⟨k+1,_,by go_num,by omega,ag⟩
    case measure=>simp [intOf];omega
   gi_wp2
   refine bodyPost_ret (results_none rfl _ _ _) rfl ?_;exact⟨⟨_,rfl⟩,.inr ⟨_,ak⟩⟩
  obtain rfl:k=m:=by omega
  have t2:decide ((k:Int)<(k:Int))=false:=by simp
  gi_wp2
  go_end0
  exact⟨⟨_,rfl⟩,.inl ⟨k,X,rfl,af⟩⟩
theorem zi4:∀s<16,∀d<16,bits .and .u8 ((s*16+d:Nat):Int) 15=((d:Nat):Int):=by decide
def zg4(kb xb:UInt8)(l4 data:List UInt8):List UInt8:=72::1::kb::xb::0::0::0::0::0::0::0::0::0::0::0::0::(l4++data)
def zmk(k s d:Nat)(b:List UInt8)(fb zb:Nat)(W0:World)(q:Nat)(X:Nat->Prop)(W:World):Prop:=
 Fr (λj=>j=fb∨j=zb) W0 X W/\q<=4/\Blk W fb #[.int .i64 1,.int .i64 k,.int .i64 s,.int .i64 d,.int .u32 0,.int .u32 0,.int .u32 0,.int .u32 0,.string (bs b)] 182/\Blk W zb #[.int .u32 (if q<=3 then 0 else b.length:Nat)] 35
theorem zmk.step {k s d:Nat}{b:List UInt8}{fb zb:Nat}{W0:World}{q:Nat}{X X':Nat->Prop}{W W':World}(h:zmk k s d b fb zb W0 q X W)(hm:Mod X W W')(hx:∀k,X' k->X k∨(W.heap.size<=k/\k<W'.heap.size))(h1:fb<W0.heap.size)(h2:zb<W0.heap.size):zmk k s d b fb zb W0 q X' W':=
 ⟨h.1.step hm hx,h.2.1,h.2.2.1.kept (h.1.block hm h1),h.2.2.2.kept (h.1.block hm h2)⟩
theorem zi5(k s d:Nat)(hk:k<=31)(hs:s<16)(hd:d<16)(b:List UInt8)(hb:b.length<=4096)(w:World):
 Calls prog 148 #[.string (bs (zg4 (vi k) (vi (s*16+d:Nat)) (le4 b.length) b))] w λe w'=>e=.returned (.tuple #[J5 k s d b,.nilIface])/\Below w.heap.size w w':=by
 obtain⟨B,hB⟩:∃B,zg4 (vi k) (vi (s*16+d:Nat)) (le4 b.length) b=B:=⟨_,rfl⟩;have au:=xt (i:=(k:Int)) (by omega) (by omega);have aq:=xt (i:=((s*16+d:Nat):Int)) (by omega) (by omega);rw [Int.toNat_natCast] at au aq;rw [hB];have ay:B.length=20+b.length:=by rw [← hB];simp [zg4,le4];omega
 have b0:∀h:0<(bs B).size,((bs B)[0]'h).toNat=72:=by subst hB;intro h;rfl
 have b1:∀h:1<(bs B).size,((bs B)[1]'h).toNat=1:=by subst hB;intro h;rfl
 have b2:∀h:2<(bs B).size,((bs B)[2]'h).toNat=k:=by subst hB;intro h;exact au
 have b3:∀h:3<(bs B).size,((bs B)[3]'h).toNat=s*16+d:=by subst hB;intro h;exact aq
 have ba:=zL B;obtain⟨n,hn⟩:∃n,B.length=n:=⟨_,rfl⟩;rw [hn] at ba ay;have a9:=ju B 20;have an:=ju B 4;rw [ba] at a9 an;have aj:B.drop 20=b:=by subst hB;rfl
 rw [aj] at a9;obtain⟨C,hC⟩:∃C,B.drop 4=C:=⟨_,rfl⟩;rw [hC] at an
 have hw:∀q,q<4->yy ((C.drop (4*q)).take 4)=if q<3 then 0 else b.length:=by
  intro q hq;subst hC;subst hB
  obtain rfl|rfl|rfl|rfl:q=0∨q=1∨q=2∨q=3:=by omega
  ·rfl
  ·rfl
  ·rfl
  show yy ((le4 b.length++b).take 4)=b.length
  rw [List.take_append_of_le_length (by simp [le4]),List.take_of_length_le (by simp [le4]),vl];omega
 have ar:C.length=16+b.length:=by rw [← hC,U3];omega
 have bt:((s*16+d:Nat):Int) / 16=(s:Int):=by omega
 have bj:=zi4 s hs d hd;have al:=λW=>zar k s d b ⟨by omega,by omega⟩ ⟨by omega,by omega⟩ ⟨by omega,by omega⟩ W
 simp only [show decide (b.length<=4096)=true by simpa using hb] at al;have bv:IntKind.i64.wrap (k:Int)=(k:Int):=by rw [N8];omega
 have br:IntKind.i64.wrap (s:Int)=(s:Int):=by rw [N8];omega
 have bq:IntKind.i64.wrap (d:Int)=(d:Int):=by rw [N8];omega
 generalize s*16+d=x at*
 have t1:decide ((n:Int)<2)=false:=by simp;omega
 have t2:decide ((n:Int)<20)=false:=by simp;omega
 have y0:(20:Int)<=(n:Int):=by omega
 have y1:(4:Int)<=(n:Int):=by omega
 have bu:(n:Int)<=1073741824:=by omega
 have h3:¬((n:Int)<=3):=by omega
 replace hB:=hid hB;replace au:=hid au;replace aq:=hid aq;replace ay:=hid ay;replace hn:=hid hn;replace aj:=hid aj;replace hC:=hid hC;replace ar:=hid ar;replace hw:=hid hw;replace al:=hid al;clear hk hs hd;refine zm func148 rfl ?_;simp only [ntmps148,R8,Nat.reduceAdd,Nat.reduceSub];go_wp2;go_step3;go_wp2_with fail
 refine(Vg _).mono ?_;rintro e w1⟨rfl,a7⟩;have bb:Below w.heap.size w w1:=pbx;have k1:Blk w1 (w.heap.size+1) #[.int .i64 1,.int .i64 0,.int .i64 0,.int .i64 0,.int .u32 0,.int .u32 0,.int .u32 0,.int .u32 0,.string ⟨#[]⟩] 182:=(Blk.new (by simp)).call a7;have k0:Blk w1 w.heap.size #[.int .i64 0,.int .i64 0,.int .i64 0,.int .i64 0,.int .u32 0,.int .u32 0,.int .u32 0,.int .u32 0,.string ⟨#[]⟩] 182:=((Blk.new rfl).alloc _).call a7;obtain⟨V,hV⟩:∃V,V=((w1.alloc (.cells #[.int .u32 0] 35)).alloc (.cells #[.pointer (some ⟨w.heap.size+1,4,none⟩),.pointer (some ⟨w.heap.size+1,5,none⟩),.pointer (some ⟨w.heap.size+1,6,none⟩),.pointer (some ⟨w1.heap.size,0,none⟩)] 306)).alloc (.cells #[.slice (some ⟨w1.heap.size+1,0,none⟩) 4 4] 307):=⟨_,rfl⟩;have kV:=((k1.alloc (.cells #[.int .u32 0] 35)).alloc (.cells #[.pointer (some ⟨w.heap.size+1,4,none⟩),.pointer (some ⟨w.heap.size+1,5,none⟩),.pointer (some ⟨w.heap.size+1,6,none⟩),.pointer (some ⟨w1.heap.size,0,none⟩)] 306)).alloc (.cells #[.slice (some ⟨w1.heap.size+1,0,none⟩) 4 4] 307);have cV:=kV.cell;have fV:=kV.frozen;have lV:=kV.lt;have c1:=k1.cell;go_wp2_with fail
 refine zd [O 0,O 1,O 2,O 3,O 4,O 5,O 6,O 7,O 8,E 9,O 10,E 11] none (λw'=>True) trivial ?_
 refine Wk ?_
 refine zc rfl (λK hK=>?_);go_wp2;refine hK.out _ _ (λ_=>trivial) ?_;clear hK K
 refine Wk ?_
 refine zc rfl (λK hK=>?_);go_wp2;refine hK.out _ _ (λ_=>trivial) ?_;clear hK K cV fV lV c1;refine ze ?_;rw [← hV];rw [← hV] at kV;have a8:Below w1.heap.size w1 V:=by rw [hV];exact pbx
 have bp:V.heap.size=w1.heap.size+3:=by rw [hV];simp
 have kz:Blk V w1.heap.size #[.int .u32 0] 35:=by rw [hV];exact((Blk.new rfl).alloc _).alloc _
 have kp:Blk V (w1.heap.size+1) #[.pointer (some ⟨w.heap.size+1,4,none⟩),.pointer (some ⟨w.heap.size+1,5,none⟩),.pointer (some ⟨w.heap.size+1,6,none⟩),.pointer (some ⟨w1.heap.size,0,none⟩)] 306:=by rw [hV];exact(Blk.new (by simp)).alloc _
 have kf:Blk V (w1.heap.size+1+1) #[.slice (some ⟨w1.heap.size+1,0,none⟩) 4 4] 307:=by rw [hV];exact Blk.new (by simp)
 clear hV;have bh:=bb.size;have bl:=k1.lt;have bd:=k0.lt;obtain⟨V3,ao⟩:∃V3,V3=(((V.setCell ⟨w.heap.size+1,1,none⟩ (.int .i64 (k:Int))).setCell ⟨w.heap.size+1,2,none⟩ (.int .i64 (s:Int))).setCell ⟨w.heap.size+1,3,none⟩ (.int .i64 (d:Int))).drew:=⟨_,rfl⟩;have ak:Mod (λq=>q=w.heap.size+1) V V3:=by rw [ao];exact((((Mod.refl (λq=>q=w.heap.size+1) V).thenSet (p:=⟨w.heap.size+1,1,none⟩) rfl _).thenSet (p:=⟨w.heap.size+1,2,none⟩) rfl _).thenSet (p:=⟨w.heap.size+1,3,none⟩) rfl _).thenDrew
 have k3:Blk V3 (w.heap.size+1) #[.int .i64 1,.int .i64 k,.int .i64 s,.int .i64 d,.int .u32 0,.int .u32 0,.int .u32 0,.int .u32 0,.string ⟨#[]⟩] 182:=by rw [ao];exact(((kV.set (o:=1) _).set (o:=2) _).set (o:=3) _).drew
 have a6:V3.heap.size=V.heap.size:=by rw [ao];simp
 rw [← ao];clear ao;have c3:=k3.cell;have f3:=k3.frozen;have l3:=k3.lt;go_wp2;go_step3;go_wp2_with fail
 refine(zem _ _).mono ?_;rintro e w4⟨rfl,rfl⟩;go_wp2_with fail
 obtain⟨W0,ag⟩:∃W0,W0=(V3.setCell ⟨w.heap.size+1,8,none⟩ (.string (bs b))).alloc (.cells #[.string (bs C)] 9):=⟨_,rfl⟩
 have a1:V3.heap.size=w1.heap.size+3:=by
  have h1:=ak.size;have h2:=a6;omega
 have am:∀q,q≠w.heap.size+1->q<V.heap.size->W0.heap[q]?=V.heap[q]?:=λq hq hl=>by
  rw [ag];rw [U4 _ _ _ (by simp;have:=ak.size;omega),N4 _ _ _ _ hq];exact ak.block q hl hq
 have bw:W0.heap.size=w1.heap.size+4:=by rw [ag];simp [a1]
 have kF:Blk W0 (w.heap.size+1) #[.int .i64 1,.int .i64 k,.int .i64 s,.int .i64 d,.int .u32 0,.int .u32 0,.int .u32 0,.int .u32 0,.string (bs b)] 182:=by rw [ag];exact(k3.set (o:=8) _).alloc _
 have kZ:=kz.kept (w':=W0) (am _ (by omega) (by omega));have kP:=kp.kept (w':=W0) (am _ (by omega) (by omega));have bn:=kf.kept (w':=W0) (am _ (by omega) (by omega));have ai:=(k0.below a8 k0.lt).kept (w':=W0) (am _ (by omega) (by omega));have kS:Blk W0 (w1.heap.size+3) #[.string (bs C)] 9:=by rw [ag];exact Blk.new (by simp [a1])
 have ap:Below w.heap.size w W0:=(bb.trans (a8.mono bh)).trans ⟨by rw [ag];exact ak.os,by rw [ag];exact ak.tape,by rw [ag];exact ak.output,by omega,λq hq=>am q (by omega) (by omega)⟩;rw [← ag];have bc:(V3.setCell ⟨w.heap.size+1,8,none⟩ (.string (bs b))).heap.size=w1.heap.size+3:=by simp [a1]
 clear ag am kz kp kf c3 f3 k3 ak kV k1 k0
 refine vg (gf:=244) (lb:=#[.pointer (some ⟨w1.heap.size+3,0,none⟩)]) rfl (enters_of func244 (by kernel_rfl) rfl)
  (zi3 (w1.heap.size+3) C (by have:=ar.out;omega)) (λ_=>rfl)
  (λq X W=>zmk k s d b (w.heap.size+1) w1.heap.size W0 q X W) (λc X W=>c=.exit 0/\zmk k s d b (w.heap.size+1) w1.heap.size W0 4 X W)
  (λq X X' W W' h hm hx=>h.step hm hx (by omega) (by omega))
  (λc u X X' W W' h hm hx=>⟨h.1,h.2.step hm hx (by omega) (by omega)⟩)
  (λq X W h=>kS.mod h.1.2 (by omega))
  ⟨Fr.refl _ _,by omega,kF,kZ⟩
  (λx=>[(10,.int .i64 (x.1:Nat)),(11,.int .u32 (x.2:Nat))]) ?assign ?body ?done ?stop
 case assign=>
  intro l' x W K hK;rw [vT] at hK⊢
  gi_wp2
  exact hK
 case body=>
  rintro l' q⟨q',y⟩ X W⟨aa,aw,kb,kz⟩⟨bk,rfl,hy⟩ bz _;rw [vT];have eP:=(kP.mod aa.2 (by omega)).cell;have eF:=(bn.mod aa.2 (by omega)).cell;have eb:=kb.cell;have fb:=kb.frozen;have lb:=kb.lt;have ez:=kz.cell;have fz:=kz.frozen;have lz:=kz.lt;simp only at hy aw bk
  rcases(by omega:q'=0∨q'=1∨q'=2∨q'=3∨q'=4)with rfl|rfl|rfl|rfl|rfl
  ·rw [hw.out 0 (by omega),if_pos (by omega)] at hy
   subst hy
   gi_wp2
   have af:Mod (λj=>j=w.heap.size+1) W (W.setCell ⟨w.heap.size+1,4,none⟩ (.int .u32 ((0:Nat):Int))):=Mod.setCell W _ _ rfl;exact⟨⟨aa.mod af (λj _ h=>.inl h),by omega,kb.set (o:=4) _,kz.other (p:=⟨w.heap.size+1,4,none⟩) (by show w1.heap.size≠w.heap.size+1;omega) _⟩,jJ.of_mod af (λj _ hX he=>by have:=aa.1 j hX;omega)⟩
  ·rw [hw.out 1 (by omega),if_pos (by omega)] at hy
   subst hy
   gi_wp2
   have af:Mod (λj=>j=w.heap.size+1) W (W.setCell ⟨w.heap.size+1,5,none⟩ (.int .u32 ((0:Nat):Int))):=Mod.setCell W _ _ rfl;exact⟨⟨aa.mod af (λj _ h=>.inl h),by omega,kb.set (o:=5) _,kz.other (p:=⟨w.heap.size+1,5,none⟩) (by show w1.heap.size≠w.heap.size+1;omega) _⟩,jJ.of_mod af (λj _ hX he=>by have:=aa.1 j hX;omega)⟩
  ·rw [hw.out 2 (by omega),if_pos (by omega)] at hy
   subst hy
   gi_wp2
   have af:Mod (λj=>j=w.heap.size+1) W (W.setCell ⟨w.heap.size+1,6,none⟩ (.int .u32 ((0:Nat):Int))):=Mod.setCell W _ _ rfl;exact⟨⟨aa.mod af (λj _ h=>.inl h),by omega,kb.set (o:=6) _,kz.other (p:=⟨w.heap.size+1,6,none⟩) (by show w1.heap.size≠w.heap.size+1;omega) _⟩,jJ.of_mod af (λj _ hX he=>by have:=aa.1 j hX;omega)⟩
  ·rw [hw.out 3 (by omega),if_neg (by omega)] at hy
   subst hy
   gi_wp2
   have af:Mod (λj=>j=w1.heap.size) W (W.setCell ⟨w1.heap.size,0,none⟩ (.int .u32 (b.length:Int))):=Mod.setCell W _ _ rfl;exact⟨⟨aa.mod af (λj _ h=>.inr h),by omega,kb.other (p:=⟨w1.heap.size,0,none⟩) (by show w.heap.size+1≠w1.heap.size;omega) _,kz.set (o:=0) _⟩,jJ.of_mod af (λj _ hX he=>by have:=aa.1 j hX;omega)⟩
  gi_wp2
  exact⟨⟨rfl,aa,aw,kb,kz⟩,jJ.refl _ _⟩
 case done=>
  rintro D q X W hD bf a5⟨aa,aw,kb,kz⟩ ae;obtain rfl:q=4:=by have:=ar.out;omega
  clear a5;have a0:Blk W w1.heap.size #[.int .u32 (b.length:Nat)] 35:=kz;have ez:=a0.cell;have eb:=kb.cell;have lb:=kb.lt;have e0:=(ai.mod aa.2 (by omega)).cell;have f0:=(ai.mod aa.2 (by omega)).frozen;have l0:=(ai.mod aa.2 (by omega)).lt;have a4:Below w.heap.size w W:=ap.trans (aa.below (by omega) (λj h=>by omega));have t7:((b.length:Int) !=(b.length:Int))=false:=by simp
  have a2:=zL b;have bo:=ap.size;have kr:=ai.mod aa.2 (show¬(w.heap.size=w.heap.size+1∨w.heap.size=w1.heap.size)by omega);go_wp2_with fail
  unfold J5 at al;refine(al.out _).mono ?_;rintro e w5⟨rfl,ac⟩;have be:=(kb.call ac).cell;have bi:=(kr.call ac).cell;have bg:=(kr.call ac).frozen;have bm:=(kr.call ac).lt;have rr:=(((((((((kr.call ac).set (o:=0) (.int .i64 1)).set (o:=1) (.int .i64 k)).set (o:=2) (.int .i64 s)).set (o:=3) (.int .i64 d)).set (o:=4) (.int .u32 0)).set (o:=5) (.int .u32 0)).set (o:=6) (.int .u32 0)).set (o:=7) (.int .u32 0)).set (o:=8) (.string (bs b));clear ez eb lb e0 f0 l0;go_wp2;rw [Exit.noGoto_ret];go_wp2;obtain⟨Wf,ah⟩:∃Wf,Wf=(((((((((w5.setCell ⟨w.heap.size,0,none⟩ (.int .i64 1)).setCell ⟨w.heap.size,1,none⟩ (.int .i64 k)).setCell ⟨w.heap.size,2,none⟩ (.int .i64 s)).setCell ⟨w.heap.size,3,none⟩ (.int .i64 d)).setCell ⟨w.heap.size,4,none⟩ (.int .u32 0)).setCell ⟨w.heap.size,5,none⟩ (.int .u32 0)).setCell ⟨w.heap.size,6,none⟩ (.int .u32 0)).setCell ⟨w.heap.size,7,none⟩ (.int .u32 0)).setCell ⟨w.heap.size,8,none⟩ (.string (bs b))):=⟨_,rfl⟩;rw [← ah] at rr;rw [← ah];have ax:=(N5.1 ae).1;have ad:D≠w.heap.size:=by omega
  have az:Wf.heap[D]?=some (.deferred (some [])):=by
   rw [ah]
   repeat refine Z0 ?_ ad _
   exact(ac.block D ax).trans ae
  have a3:Below w.heap.size w Wf:=by
   rw [ah]
   repeat refine zn ?_ (N0 _) _
   exact zh a4 ac
  have rc:=(rr.putObj (r:=D) (Ne.symm ad) (.deferred none)).cell;unfold J5;exact jb (D:=D) (v:=.tuple #[.agg #[.int .i64 1,.int .i64 k,.int .i64 s,.int .i64 d,.int .u32 0,.int .u32 0,.int .u32 0,.int .u32 0,.string (bs b)],.nilIface]) az (by simp [results,Tryz.results148,go_sem,rc]) ⟨rfl,zM a3 (by omega) _⟩
 case stop=>
  rintro D c X W hD bf⟨rfl,aa,aw,kb,kz⟩ ae;have a0:Blk W w1.heap.size #[.int .u32 (b.length:Nat)] 35:=kz;have ez:=a0.cell;have eb:=kb.cell;have lb:=kb.lt;have e0:=(ai.mod aa.2 (by omega)).cell;have f0:=(ai.mod aa.2 (by omega)).frozen;have l0:=(ai.mod aa.2 (by omega)).lt;have a4:Below w.heap.size w W:=ap.trans (aa.below (by omega) (λj h=>by omega));have t7:((b.length:Int) !=(b.length:Int))=false:=by simp
  have a2:=zL b;have bo:=ap.size;have kr:=ai.mod aa.2 (show¬(w.heap.size=w.heap.size+1∨w.heap.size=w1.heap.size)by omega);go_wp2_with fail
  unfold J5 at al;refine(al.out _).mono ?_;rintro e w5⟨rfl,ac⟩;have be:=(kb.call ac).cell;have bi:=(kr.call ac).cell;have bg:=(kr.call ac).frozen;have bm:=(kr.call ac).lt;have rr:=(((((((((kr.call ac).set (o:=0) (.int .i64 1)).set (o:=1) (.int .i64 k)).set (o:=2) (.int .i64 s)).set (o:=3) (.int .i64 d)).set (o:=4) (.int .u32 0)).set (o:=5) (.int .u32 0)).set (o:=6) (.int .u32 0)).set (o:=7) (.int .u32 0)).set (o:=8) (.string (bs b));clear ez eb lb e0 f0 l0;go_wp2;rw [Exit.noGoto_ret];go_wp2;obtain⟨Wf,ah⟩:∃Wf,Wf=(((((((((w5.setCell ⟨w.heap.size,0,none⟩ (.int .i64 1)).setCell ⟨w.heap.size,1,none⟩ (.int .i64 k)).setCell ⟨w.heap.size,2,none⟩ (.int .i64 s)).setCell ⟨w.heap.size,3,none⟩ (.int .i64 d)).setCell ⟨w.heap.size,4,none⟩ (.int .u32 0)).setCell ⟨w.heap.size,5,none⟩ (.int .u32 0)).setCell ⟨w.heap.size,6,none⟩ (.int .u32 0)).setCell ⟨w.heap.size,7,none⟩ (.int .u32 0)).setCell ⟨w.heap.size,8,none⟩ (.string (bs b))):=⟨_,rfl⟩;rw [← ah] at rr;rw [← ah];have ax:=(N5.1 ae).1;have ad:D≠w.heap.size:=by omega
  have az:Wf.heap[D]?=some (.deferred (some [])):=by
   rw [ah]
   repeat refine Z0 ?_ ad _
   exact(ac.block D ax).trans ae
  have a3:Below w.heap.size w Wf:=by
   rw [ah]
   repeat refine zn ?_ (N0 _) _
   exact zh a4 ac
  have rc:=(rr.putObj (r:=D) (Ne.symm ad) (.deferred none)).cell;unfold J5;exact jb (D:=D) (v:=.tuple #[.agg #[.int .i64 1,.int .i64 k,.int .i64 s,.int .i64 d,.int .u32 0,.int .u32 0,.int .u32 0,.int .u32 0,.string (bs b)],.nilIface]) az (by simp [results,Tryz.results148,go_sem,rc]) ⟨rfl,zM a3 (by omega) _⟩
