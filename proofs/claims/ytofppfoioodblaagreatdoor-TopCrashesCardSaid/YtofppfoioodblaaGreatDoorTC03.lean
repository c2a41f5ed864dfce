/- PARTS OF THE PROOF. -/
import Derived.StillTail
import Derived.StillTactics
import Derived.OrdersIn
import Derived.TacticsIn
import Derived.Deep.RegionHeld
import Derived.Lib.AppendStr
import Derived.Laws.MakeOwn
import Derived.Test.YtofppfoioodblaaGreatDoorTC02
set_option maxRecDepth 8000
set_option maxHeartbeats 4000000
open Go.Proofs.Tryz
namespace Go.Proofs.YtofppfoioodblaaGreatDoor
section
open Go Go.RowKit
def zkU(A:Act)(Wp:World->Prop):Exit->Act->World->Prop
 | .normal,a,w=>a=A/\Wp w
 |_,_,_=>False
theorem Jt {A:Act}{Wp:World->Prop}{w:World}(h:Wp w):zkU A Wp .normal A w:=⟨rfl,h⟩
variable {F:Fence}{n:Nat}{P:Program}
theorem Ju {c:Code}{Q:Exit->Act->World->Prop}{a A:Act}{w:World}{Wp:World->Prop}(h:c.wp P (zkU A Wp) a w)(h2:∀w',Wp w'->Q .normal A w'):c.wp P Q a w:=
 wp_mono h (λe a' w' hs=>by
  cases e with
  |normal=>obtain⟨rfl,hw⟩:=hs;exact h2 w' hw
  |_=>exact hs.elim)
end
section
open Go Go.RowKit Go.Shelf Go.Extern.Stop Go.Stop Go.Extern
attribute [local go_sem] Oper.semAt_some zB zp
def idV(k:MId):Value:=.agg #[.int .i64 k.1,.int .u32 k.2]
def y7(m:zA):Value:=.agg #[.int .i64 m.1.1,.int .u32 m.1.2,.string (bs m.2)]
def zg(m:zA):List Value:=[.int .i64 m.1.1,.int .u32 m.1.2,.string (bs m.2)]
theorem vk(i:Int)(w:World):Calls prog 132 #[.int .i64 i] w λe w'=>e=.returned (.bool (vM i))/\w'=w:=by
 by_cases h:i<0
 have t0:decide (0<=i)=false:=by simp;omega
 rotate_left
 have t0:decide (0<=i)=true:=by simp;omega
 all_goals
  go_enter func132,ntmps132
  go_wp2;go_ret
  exact⟨by simp [vM,t0],rfl⟩
theorem vG(i:Int)(c:Nat)(d:List UInt8)(w:World):Calls prog 91 #[.agg #[.int .i64 i,.int .u32 c,.string (bs d)]] w λe w'=>
 e=.returned (.bool (zx ((i,c),d)))/\Below w.heap.size w w':=by
 have hs:=zL d
 cases hn:vM i
 ·have hr:zx ((i,c),d)=false:=by simp only [vM] at hn;simp [zx,hn]
  go_enter func91,ntmps91
  go_wp2_with (go_at_call 132;refine(vk _ _).mono ?_;rintro e w1 ⟨rfl,rfl⟩)
  go_ret
  exact⟨by rw [hr];rfl,pbx⟩
 have aa:decide (0<=i)=true/\decide (i<16)=true:=by simpa [vM] using hn
 by_cases hl:d.length<=1000
 ·have t1:decide ((1000:Int)<((bs d).size:Int))=false:=by rw [hs];simp;omega
  by_cases h1:1<=c
  ·have t2:decide (1<=(c:Int))=true:=by simp;omega
   by_cases h2:c<=4294967294
   have t3:decide ((c:Int)<=4294967294)=true:=by simp;omega
   have hr:zx ((i,c),d)=true:=by simp only [zx,aa.1,aa.2];simp [hl,h1,h2]
   rotate_left
   have t3:decide ((c:Int)<=4294967294)=false:=by simp;omega
   have hr:zx ((i,c),d)=false:=by simp [zx,h2]
   all_goals
    clear hs hl h1 h2
    go_enter func91,ntmps91
    go_wp2_with (go_at_call 132;refine(vk _ _).mono ?_;rintro e w1 ⟨rfl,rfl⟩)
    go_ret
    exact⟨by rw [hr];rfl,pbx⟩
  have t2:decide (1<=(c:Int))=false:=by simp;omega
  have hr:zx ((i,c),d)=false:=by simp [zx,h1]
  clear hs hl h1
  go_enter func91,ntmps91
  go_wp2_with (go_at_call 132;refine(vk _ _).mono ?_;rintro e w1 ⟨rfl,rfl⟩)
  go_ret
  exact⟨by rw [hr];rfl,pbx⟩
 have t1:decide ((1000:Int)<((bs d).size:Int))=true:=by rw [hs];simp;omega
 have hr:zx ((i,c),d)=false:=by simp [zx,hl]
 clear hs hl
 go_enter func91,ntmps91
 go_wp2_with (go_at_call 132;refine(vk _ _).mono ?_;rintro e w1 ⟨rfl,rfl⟩)
 go_ret
 exact⟨by rw [hr];rfl,pbx⟩
def jV(tk:List Nat)(lv:Value)(mb:Nat):Array Value:=((tk.map λn:Nat=>Value.int .u32 (n:Int))++ [lv,.map (some mb)]).toArray
def j2(B:Nat)(b:vL)(t:List Nat)(ow:Own)(W:World):Prop:=
 xh b/\∃lv mb,Blk W B (jV b.tk lv mb) 358/\Row W 78 3 lv b.log.length (b.log.flatMap zg)/\z6 W mb idV (b.ws.map λp=>(p.1,y7 p.2))/\
  ow B=t/\ow mb=t/\∀g,lv.ownBlock=some g->ow g=t
theorem ZC(tk:List Nat)(lv:Value)(mb:Nat)(i:Nat)(h:tk.length=16)(hi:i<16):(jV tk lv mb)[i]?=some (.int .u32 (tk[i]?.getD 0:Nat)):=by
 have:i<tk.length:=by omega
 simp [jV,List.getElem?_append_left,this]
theorem Yd(tk:List Nat)(lv:Value)(mb:Nat)(h:tk.length=16):(jV tk lv mb)[16]?=some lv:=by
 simp [jV,h]
theorem xT(tk:List Nat)(lv:Value)(mb:Nat)(h:tk.length=16):(jV tk lv mb)[17]?=some (.map (some mb)):=by
 simp [jV,h]
theorem j2.loc(B:Nat)(b:vL)(t:List Nat):yI t (j2 B b t):=by
 rintro ow ow' W W'⟨aa,lv,mb,hB,hR,hM,o1,o2,o3⟩ hs hk;have kB:=hk B hB.lt (by rw [o1];exact Sub.rfl' t);have kM:=hk mb hM.lt (by rw [o2];exact Sub.rfl' t);refine⟨aa,lv,mb,hB.kept kB.2,hR.kept (λg hg=>(hk g (hR.lt hg) (by rw [o3 g hg];exact Sub.rfl' t)).2),hM.kept kM.2,kB.1.trans o1,kM.1.trans o2,λg hg=>?_⟩;exact((hk g (hR.lt hg) (by rw [o3 g hg];exact Sub.rfl' t)).1).trans (o3 g hg)
theorem zlb(t:List Nat)(ow:Own)(w:World):Calls prog 172 #[] w λe w'=>
 ∃B ow',e=.returned (.pointer (some ⟨B,0,none⟩))/\zt t ow w ow' w'/\Below w.heap.size w w'/\j2 B qe t ow' w':=by
 have aa:= @run_makeMap prog
 go_enter func172,ntmps172
 go_wp2;go_ret
 refine⟨w.heap.size+1,ow.ext w.heap.size (λ_=>True) t,rfl,(zt.of_below t ow (pbx)).own (λk hk=>Own.ext_old hk),pbx,⟨rfl,by simp [qe],by simp [qe]⟩,.slice none 0 0,w.heap.size,Blk.new (by simp),z7 _ _ _,?_,Own.ext_new (by omega) trivial,Own.ext_new (by omega) trivial,by simp [Value.ownBlock]⟩;exact(z6.made w idV).kept (U4 _ _ _ (by simp))
theorem zeJ(B:Nat)(b:vL)(t:List Nat)(ow:Own)(i:Int)(w:World)(hb:j2 B b t ow w):Calls prog 361 #[.pointer (some ⟨B,0,none⟩),.int .i64 i] w λe w'=>
 e=.returned (.int .u32 (Jk b i:Nat))/\w'=w:=by
 obtain⟨aa,lv,mb,hB, -⟩:=hb
 cases hn:vM i
 ·have hr:Jk b i=0:=by simp [Jk,hn]
  go_enter func361,ntmps361
  go_wp2_with (go_at_call 132;refine(vk _ _).mono ?_;rintro e w1 ⟨rfl,rfl⟩)
  go_ret
  exact⟨by rw [hr];rfl,rfl⟩
 obtain⟨k,rfl,hk⟩:∃k:Nat,i=k/\k<16:=⟨i.toNat,by simp [vM] at hn;omega,by simp [vM] at hn;omega⟩
 have hr:Jk b k=((b.tk[k]?.getD 0)+1)% 4294967296:=by simp [Jk,hn]
 have hc:w.cell? ⟨B,k,none⟩=some (.int .u32 (b.tk[k]?.getD 0:Nat)):=(hB.cell k).trans (ZC b.tk lv mb k aa.sixteen hk);clear hB
 go_enter func361,ntmps361
 go_wp2_with (go_at_call 132;refine(vk _ _).mono ?_;rintro e w1 ⟨rfl,rfl⟩)
 go_ret
 exact⟨congrArg (λz=>Ending.returned (Value.int .u32 z)) (by rw [hr];omega),rfl⟩
theorem zl5(n:Nat)(b:Bool)(x:Int)(y:Nat)(w:World):(Instr.checkKey b (n+1+1) 76 (.agg #[.int .i64 x,.int .u32 y])).run prog w=.ok () w:=by
 simp [Instr.checkKey,go_sem]
theorem VK:qt prog 76 idV where
 eq:=λk k' w=>by
  obtain⟨a,b⟩:=k;obtain⟨c,d⟩:=k';have h:(Op.equal 76 (idV (a,b)) (idV (c,d))).run prog w=(Op.equalIn 10000 76 (.agg #[.int .i64 a,.int .u32 b]) (.agg #[.int .i64 c,.int .u32 d])).run prog w:=rfl;rw [h];simp [go_sem]
  by_cases h1:a=c<;>by_cases h2:b=d<;>simp [h1,h2] <;>omega
 chk:=λb k w=>zl5 9998 b k.1 k.2 w
 bits:=λk=>by simp [idV,Instr.sameBits]
 now:=⟨_,Tryz.underlying76,λk k'=>by left;rfl⟩
theorem zax(w:World):(zeroValue 78).run prog w=.ok (.agg #[.int .i64 0,.int .u32 0,.string ⟨#[]⟩]) w:=by
 kernel_rfl
theorem zhC(B:Nat)(b:vL)(t:List Nat)(ow:Own)(i:Int)(c:Nat)(w:World)(hb:j2 B b t ow w):Calls prog 365 #[.pointer (some ⟨B,0,none⟩),.agg #[.int .i64 i,.int .u32 c]] w λe w'=>
 e=.returned (.bool (zhA b (i,c)))/\Below w.heap.size w w':=by
 obtain⟨aj,lv,mb,hB, -,hM, -⟩:=hb
 cases hn:vM i
 ·have hr:zhA b (i,c)=false:=by simp [zhA,hn]
  go_enter func365,ntmps365
  go_wp2_with (go_at_call 132;refine(vk _ _).mono ?_;rintro e w1 ⟨rfl,rfl⟩)
  go_ret
  exact⟨by rw [hr];rfl,pbx⟩
 obtain⟨k,rfl,hk⟩:∃k:Nat,i=k/\k<16:=⟨i.toNat,by simp [vM] at hn;omega,by simp [vM] at hn;omega⟩
 by_cases hc1:c<1
 ·have t1:decide ((c:Int)<1)=true:=by simp;omega
  have hr:zhA b (k,c)=false:=by simp [zhA];omega
  clear hc1
  go_enter func365,ntmps365
  go_wp2_with (go_at_call 132;refine(vk _ _).mono ?_;rintro e w1 ⟨rfl,rfl⟩)
  go_ret
  exact⟨by rw [hr];rfl,pbx⟩
 have t1:decide ((c:Int)<1)=false:=by simp;omega
 have al:decide (1<=c)=true:=by simp;omega
 obtain⟨W1,aa⟩:∃W1,w.alloc (.cells #[.int .i64 k,.int .u32 c] 76)=W1:=⟨_,rfl⟩;have ah:z6 W1 mb idV (b.ws.map λp=>(p.1,y7 p.2)):=hM.kept (by rw [← aa];exact U4 _ _ _ hM.lt)
 have ad:∀W':World,W'.heap[mb]?=W1.heap[mb]?->(Instr.lookup 138 (.map (some mb)) (.agg #[.int .i64 k,.int .u32 c]) true).run prog W'=.ok (.tuple #[((zE ((k:Int),c) b.ws).map y7).getD (.agg #[.int .i64 0,.int .u32 0,.string ⟨#[]⟩]),.bool (zE ((k:Int),c) b.ws).isSome]) W':=λW' hW'=>by
  have:=(ah.kept (w':=W') hW').lookup_ok VK Tryz.underlying138 (zax W') ((k:Int),c);rw [xB,Option.isSome_map] at this;exact this
 have ag:=ad W1.drew rfl;have ac:∀o,_:=λo=>ad (W1.alloc o).drew (U4 _ _ _ ah.lt)
 clear ad
 have ht:W1.cell? ⟨B,k,none⟩=some (.int .u32 (b.tk[k]?.getD 0:Nat)):=by
  rw [← aa];exact((hB.alloc _).cell k).trans (ZC b.tk lv mb k aj.sixteen hk)
 have hm:W1.cell? ⟨B,17,none⟩=some (.map (some mb)):=by
  rw [← aa];exact((hB.alloc _).cell 17).trans (xT b.tk lv mb aj.sixteen)
 have ci:W1.cell? ⟨w.heap.size,0,none⟩=some (.int .i64 k):=by rw [← aa];simp
 have cc:W1.cell? ⟨w.heap.size,1,none⟩=some (.int .u32 c):=by rw [← aa];simp
 have an:Below w.heap.size w W1:=by rw [← aa];exact(N2 _ _).alloc (N0 _) _
 have ak:B<W1.heap.size:=by rw [← aa];exact(hB.alloc _).lt
 have ae:w.heap.size<W1.heap.size:=by rw [← aa];simp
 clear hM ah hB hc1
 have hr:zhA b (k,c)=((zE ((k:Int),c) b.ws).isSome||decide (c<=b.tk[k]?.getD 0)):=by
  simp only [zhA,hn,al,Int.toNat_natCast];simp
 obtain⟨mv,ai⟩:∃mv,((zE ((k:Int),c) b.ws).map y7).getD (.agg #[.int .i64 0,.int .u32 0,.string ⟨#[]⟩])=mv:=⟨_,rfl⟩
 cases hl:(zE ((k:Int),c) b.ws).isSome
 all_goals
  rw [hl] at hr;simp only [hl,ai] at ag ac
  obtain⟨m0,am⟩:∃m0:zA,mv=y7 m0:=by
   rw [← ai];cases zE ((k:Int),c) b.ws with
   |none=>exact⟨((0,0),[]),rfl⟩
   |some m=>exact⟨m,rfl⟩
  rw [am] at ag ac;unfold y7 at ag ac;clear hl ai;rw [hr]
  go_enter func365,ntmps365
  go_wp2_with (first
   |(rw [aa])
   |(go_at_call 132;refine(vk _ _).mono ?_;rintro e w1 ⟨rfl,rfl⟩))
  apply Ju (Wp:=λw'=>Below w1.heap.size w1 w')
  case h=>
   go_region
   all_goals exact Jt (pbx)
  case h2=>
   rintro w5 af;replace ht:=(af.cell (p:=⟨B,k,none⟩) ak).trans ht;replace ci:=(af.cell (p:=⟨w.heap.size,0,none⟩) ae).trans ci;replace cc:=(af.cell (p:=⟨w.heap.size,1,none⟩) ae).trans cc;go_wp2
   go_quiet (fail)
   go_wp2;go_ret
   exact⟨rfl,below_drewN (zh an af) _⟩
end
section
open Go Go.RowKit
theorem zfI {P:Program}{o:Oper}{a:Act}{w:World}{K:Act->World->Prop}{Q:Exit->Act->World->Prop}(l n:Nat)(hd:∀c,o.op≠ .defer c)(h:o.wp P a w K Q):o.wpIn (Fence.wide.inRound l) n P a w K Q:=by
 unfold Oper.wpIn;refine⟨λ_ _=>trivial,?_⟩;have hs:o.semAt (Fence.wide.inRound l).round a.eval=execOp a.eval o:=Oper.semAt_some l _ _ hd;rw [hs];unfold Oper.wp at h
 revert h
 generalize(execOp a.eval o).run P w=r
 intro h
 cases r with
 |ok nx w'=>
  cases nx with
  |value v=>exact h
  |skip=>exact h
  |defer d=>exact h
  |enter f args=>exact⟨(λe=>by cases e),CallsIn.inRound l (callsIn_wide.2 h)⟩
  |row row args=>exact⟨(λe=>by cases e),λc cs _=>by obtain⟨v,aa,r,s⟩:=h c cs;exact⟨v,aa,r,stepsIn_wide.2 s⟩⟩
  |_=>exact h.elim
 |halt x w'=>cases x<;>first|exact h|exact h.elim
def V6(ops:List Oper):Bool:=ops.all λo=>match o.op with| .defer _=>false|_=>true
theorem zbB {ops:List Oper}(h:V6 ops=true){o:Oper}(ho:o∈ops):∀c,o.op≠ .defer c:=by
 intro c hc;have:=List.all_eq_true.1 h o ho;rw [hc] at this
 cases this
theorem zdm {P:Program}{ops:List Oper}{Q:Exit->Act->World->Prop}(l n:Nat)(hd:V6 ops=true)(hQ:¬LetsOut Q){i:Nat}{K K':Act->World->Prop}(hK:∀a w,K a w->K' a w){a:Act}{w:World}
 (h:wpOp P ops.toArray Q i K a w):wpOpIn (Fence.wide.inRound l) n P ops.toArray Q i K' a w:=by
 unfold wpOp at h;unfold wpOpIn
 cases ho:ops.toArray[i]? with
 |none=>rw [ho] at h;exact hK _ _ h
 |some o=>
  rw [ho] at h
  have hm:o∈ops:=by
   rw [List.getElem?_toArray] at ho;exact List.mem_of_getElem? ho
  simp only at h⊢
  split
  ·rename_i hw
   rw [if_pos hw] at h
   rcases h with h|⟨_,h⟩
   ·exact Oper.wpIn_mono hK (zfI l n (zbB hd hm) h)
   exact absurd h hQ
  rename_i hw
  rw [if_neg hw] at h;exact⟨λ_ _=>trivial,hK _ _ h⟩
theorem ZD {P:Program}{md:Region.Mode}{ops:List Oper}{Q:Exit->Act->World->Prop}(l n:Nat)(hd:V6 ops=true)(hQ:¬LetsOut Q):∀(fuel:Nat)(listed:Array Bool)(a:Act)(w:World),
 wpAny P md ops.toArray Q fuel listed a w->wpAnyIn (Fence.wide.inRound l) n P md ops.toArray Q fuel listed a w
 |0,_,_,_,h=>h
 |fuel+1,_,_,_,h=>⟨h.1,λi hi=>zdm l n hd hQ (λa' w' h'=>ZD l n hd hQ fuel _ a' w' h') (h.2 i hi)⟩
theorem xj {P:Program}{id:Nat}{Q:Exit->Act->World->Prop}{a:Act}{w:World}{ops:List Oper}{l k:Nat}(n:Nat)(hd:V6 ops=true)(hQ:¬LetsOut Q)(hm:P.follows .mixedOrders=true)(hB:Region.lexTailB .any ops.toArray n=true)
 (h:wpStill P ops.toArray {w with drawn:=w.drawn+1} (λa'=>wpList P ops.toArray Q (ops.drop n) a' {w with drawn:=w.drawn+1}) (ops.take n) a):(Code.region id ops.toArray true).wpIn (Fence.wide.inRound l) k P Q a w:=by
 simp only [Region.lexTailB,Bool.and_eq_true,decide_eq_true_eq] at hB;obtain⟨⟨⟨⟨ad,hn⟩,hs⟩,hc⟩,ac⟩:=hB;have ah:n<ops.length:=by simpa using hn
 have aa:(ops.take n).length=n:=by simp;omega
 have af:(ops.drop n).length=ops.toArray.size - n:=by simp
 have ae:HeadInv .any ops.toArray n (Array.replicate ops.toArray.size false):=
  ⟨by simp,λj oj _ hl=>(by rw [getD_replicate_false] at hl;cases hl),λt _ ht=>getD_in (by simpa using ht) (getD_replicate_false _ _)⟩
 have H:=wpAnyL_lex (md:=.any) (g:=ops.toArray.size - n) ad hs hc hn (ops.take n) 0 _ a (λj hj=>by
  have ag:j<n:=by rw [aa] at hj;exact hj
  simp [ag]) (by simpa using aa) ae (by rw [aa];exact ac) h
 refine wpIn_region_any hm (ZD l k hd hQ _ _ _ _ ?_)
 have:=wpAny_of_head (Q':=Q) (g:=ops.toArray.size - n) (λlisted a' hL=>by
  have:=wpAny_of_seq (md:=.any) (Q':=Q) (ops.drop n) n listed a' {w with drawn:=w.drawn+1} (λj=>by simp [List.getElem?_drop]) (by rw [af];exact hL.1) hL.2
  rwa [af] at this) _ _ _ H
 rw [aa,show n+(ops.toArray.size - n)=ops.toArray.size by omega] at this;exact this
variable {P:Program}{ops:Array Oper}{S:World->Prop}{Q:Exit->Act->World->Prop}
def jk(Q:Exit->Act->World->Prop):Exit->Act->World->Prop
 | .normal,a,w=>Q .normal a w
 |_,_,_=>False
theorem jk.imp {Q:Exit->Act->World->Prop} :∀(e:Exit)(a:Act)(w:World),jk Q e a w->Q e a w:=λe a w h=>by
 cases e<;>first|exact h|exact h.elim
def Jv(ops:Array Oper)(listed:Array Bool):Prop:=∀j oj,ops[j]?=some oj->listed.getD j false=true->∀e∈oj.after,Region.binds .any e=true->listed.getD e.on false=true
theorem Jv.set {listed:Array Bool}{i:Nat}(h:Jv ops listed)(hi:i∈Region.ready .any ops listed):Jv ops (listed.setIfInBounds i true):=by
 intro j oj hj hl e he hb
 by_cases hji:i=j
 ·subst hji
  obtain⟨_,o,ho,aa⟩:=mem_ready.1 hi;rw [hj] at ho;cases ho
  exact getD_set_true (aa e he hb)
 exact getD_set_true (h j oj hj (by rwa [getD_set_ne false hji] at hl) e he hb)
def zlT(ops:Array Oper)(f:Nat):List Nat:=
 (List.range ops.size).reverse.foldl (λm k=>if m.contains k then m++((ops[k]?.map λo=>(o.after.toList.filter (Region.binds .any)).map (·.on)).getD [])else m) [f]
theorem zhD {f:Nat}{listed:Array Bool}(hc:Jv ops listed)(hf:listed.getD f false=true):∀i∈zlT ops f,listed.getD i false=true:=by
 unfold zlT
 generalize(List.range ops.size).reverse=l
 suffices H:∀(l m:List Nat),(∀i∈m,listed.getD i false=true)->∀i∈l.foldl (λm k=>if m.contains k then m++((ops[k]?.map λo=>(o.after.toList.filter (Region.binds .any)).map (·.on)).getD [])else m) m,listed.getD i false=true by
  exact H l [f] (by simpa using hf)
 intro l
 induction l with
 |nil=>intro m h;simpa using h
 |cons k l ih=>
  intro m h;rw [List.foldl_cons];refine ih _ ?_
  split
  ·rename_i hk
   intro i hi
   rcases List.mem_append.1 hi with hi|hi
   ·exact h i hi
   cases ho:ops[k]? with
   |none=>rw [ho] at hi;simp at hi
   |some o=>
    rw [ho] at hi;simp only [Option.map_some,Option.getD_some,List.mem_map,List.mem_filter] at hi;obtain⟨e,⟨he,hb⟩,rfl⟩:=hi;exact hc k o ho (h k (by simpa using hk)) e (by simpa using he) hb
  exact h
def JE(brk:Option Nat)(listed:Array Bool):Prop:=∀f,brk=some f->listed.getD f true=false
def yG(P:Program)(ops:Array Oper)(Q:Exit->Act->World->Prop)(S:World->Prop)(brk:Option Nat):Nat->Array Bool->Act->World->Prop
 |0,listed,a,w=>Region.ready .any ops listed=[] /\Q .normal a w
 |fuel+1,listed,a,w=>
  (Region.ready .any ops listed=[] ->Q .normal a w)/\
  ∀i∈Region.ready .any ops listed,wpOp P ops Q i (λa' w'=>(JE brk (listed.setIfInBounds i true)->S w')/\yG P ops Q S brk fuel (listed.setIfInBounds i true) a' w') a w
theorem qI {brk:Option Nat} :∀(fuel:Nat)(listed:Array Bool)(a:Act)(w:World),yG P ops Q S brk fuel listed a w->wpAny P .any ops Q fuel listed a w
 |0,_,_,_,h=>h
 |fuel+1,_,_,_,h=>⟨h.1,λi hi=>wpOp_mono (λa' w' h'=>qI fuel _ a' w' h'.2) (h.2 i hi)⟩
theorem ZE {brk:Option Nat}{i:Nat}{oi:Oper}{v:Value}(hi:ops[i]?=some oi)(hsel:∀(j:Nat)(o:Oper) cs b,ops[j]?=some o->o.op≠ .select cs b)
 (hQ:∀c a w,Q (.panic c) (a.put oi.dst v) w->Q (.panic c) a w) (hb:∀f,brk=some f->i∈zlT ops f/\i≠f):
 ∀(fuel:Nat)(listed:Array Bool)(a:Act)(w:World),Jv ops listed->JE brk listed->
  (∀j oj,ops[j]?=some oj->j≠i->listed.getD j true=false->(∀e∈oj.after,Region.binds .any e=true->e.on≠i)->oi.apart ops oj=true)->
  i∈Region.ready .any ops listed->YieldsIf P ops S oi v a->S w->
  yG P ops Q S brk fuel (listed.setIfInBounds i true) (a.put oi.dst v) w->yG P ops Q S brk (fuel+1) listed a w:=by
 intro fuel
 induction fuel with
 |zero=>
  intro listed a w _ _ _ hr hy hS H;refine⟨λh=>(by rw [h] at hr;cases hr),λj hj=>?_⟩
  by_cases hji:j=i
  ·subst hji;exact hy.wpOp hi hS ⟨λ_=>hS,H⟩
  have:=ready_mono hj hji
  rw [H.1] at this
  cases this
 |succ fuel ih=>
  intro listed a w hcl has hfree hr hy hS H;refine⟨λh=>(by rw [h] at hr;cases hr),λj hj=>?_⟩
  by_cases hji:j=i
  ·subst hji;exact hy.wpOp hi hS ⟨λ_=>hS,H⟩
  have h1:=H.2 j (ready_mono hj hji)
  obtain⟨aa,oj,af,ah⟩:=mem_ready.1 hj;have aj:=(mem_ready.1 hr).1
  have ai:listed.getD i false=false:=by
   rcases Nat.lt_or_ge i listed.size with h'|h'
   ·simp [h'] at aj⊢;exact aj
   simp [Array.getElem?_eq_none h']
  have ag:∀e∈oj.after,Region.binds .any e=true->e.on≠i:=λe he hb heq=>by
   have h1:=ah e he hb;rw [heq,ai] at h1
   cases h1
  have ak:∀f,brk=some f->j≠f:=λf hf e=>by
   subst e;have am:=hcl.set hj
   have al:(listed.setIfInBounds j true).getD j false=true:=by
    have:j<listed.size:=by
     rcases Nat.lt_or_ge j listed.size with h'|h'
     ·exact h'
     simp [Array.getElem?_eq_none h'] at aa
    simp [this]
   have:=zhD am al i (hb j hf).1;rw [getD_set_ne false hji,ai] at this
   cases this
  have ad:JE brk (listed.setIfInBounds j true):=λf hf=>by rw [getD_set_ne true (ak f hf)];exact has f hf
  have h2:=wpOp_putIf af (hfree j oj af hji aa ag) (λcs b=>hsel i oi cs b hi) (λcs b=>hsel j oj cs b af) hQ hy h1
  have ac:∀k ok,ops[k]?=some ok->k≠i->(listed.setIfInBounds j true).getD k true=false->
   (∀e∈ok.after,Region.binds .any e=true->e.on≠i)->oi.apart ops ok=true:=λk ok hk hki hun hno=>by
   refine hfree k ok hk hki ?_ hno
   by_cases hjk:j=k
   ·subst hjk;exact aa
   rw [getD_set_ne true hjk] at hun;exact hun
  have ae:JE brk ((listed.setIfInBounds i true).setIfInBounds j true):=λf hf=>by
   rw [Array.setIfInBounds_comm _ _ (Ne.symm hji),getD_set_ne true (Ne.symm (hb f hf).2.symm)];exact ad f hf
  refine wpOp_mono (λa' w' h3=>⟨λ_=>h3.2.1 ae,ih (listed.setIfInBounds j true) a' w' (hcl.set hj) ad ac (ready_mono hr (Ne.symm hji)) h3.1 (h3.2.1 ae) ?_⟩) h2;rw [Array.setIfInBounds_comm _ _ hji];exact h3.2.2
def Vk(ops:Array Oper)(brk:Option Nat):List (Nat×Bool)->Array Bool->Bool
 | [],listed=>(Region.ready .any ops listed).isEmpty
 |(i,true)::r,listed=>(match brk with|none=>true|some f=> !listed.getD f true &&(zlT ops f).contains i && i !=f)&&(Region.ready .any ops listed).contains i && Region.free .any ops listed i && Vk ops brk r (listed.setIfInBounds i true)
 |(i,false)::r,listed=>decide (Region.ready .any ops listed=[i])&& Vk ops brk r (listed.setIfInBounds i true)
def xp(P:Program)(ops:Array Oper)(S:World->Prop)(brk:Option Nat)(Q:Exit->Act->World->Prop):List (Nat×Bool)->Act->World->Prop
 | [],a,w=>Q .normal a w
 |(i,true)::r,a,w=>∃o v,ops[i]?=some o/\YieldsIf P ops S o v a/\xp P ops S brk Q r (a.put o.dst v) w
 |(i,false)::r,a,w=>wpOp P ops (λ_ _ _=>False) i (λa' w'=>(brk≠some i->S w')/\xp P ops S brk Q r a' w') a w
theorem xq {i:Nat}{K:Act->World->Prop}{a:Act}{w:World}(h:wpOp P ops (λ_ _ _=>False) i K a w):wpOp P ops Q i K a w:=by
 unfold wpOp at*
 cases ho:ops[i]? with
 |none=>rw [ho] at h;exact h
 |some o=>
  rw [ho] at h;simp only at h⊢
  split
  ·rename_i hw
   rw [if_pos hw] at h
   rcases h with h|⟨_,h⟩
   ·refine .inl ?_
    unfold Oper.wp at*
    generalize(execOp a.eval o).run P w=r at*
    cases r with
    |ok n w'=>
     cases n<;>simp only [Oper.upon] at h⊢<;>
      first
       |exact h
       |exact Calls.mono h (λe w'' he=>by cases e<;>first|exact he|exact he.elim|(obtain⟨_,_,h0⟩:=he;exact h0.elim))
    |halt x w'=>cases x<;>simp only [Oper.upon] at h⊢<;>first|exact h|exact h.elim
   obtain⟨_,_,h⟩:=h;exact h.elim
  rename_i hw
  rw [if_neg hw] at h;exact h
theorem qv {brk:Option Nat}(hsel:Region.noSelect ops=true):∀(l:List (Nat×Bool)) (listed:Array Bool) (a:Act) (w:World),Vk ops brk l listed=true->Jv ops listed->(JE brk listed->S w)->
 xp P ops S brk Q l a w->yG P ops (jk Q) S brk l.length listed a w
 | [],listed,a,w,hB,hc,hS,h=>⟨by simpa [Vk] using hB,h⟩
 |(i,true)::l,listed,a,w,hB,hc,hS,h=>by
  simp only [Vk,Bool.and_eq_true] at hB;obtain⟨⟨⟨hk,hr⟩,hf⟩,hB⟩:=hB;have hr':i∈Region.ready .any ops listed:=by simpa using hr
  have aa:JE brk listed:=λf hf=>by subst hf;simp at hk;simpa using hk.1.1
  obtain⟨o,v,ho,hy,h⟩:=h
  refine ZE ho (Region.noSelect_spec hsel) (λ_ _ _ h=>h) (λf hf=>(by subst hf;simp at hk;exact⟨hk.1.2,hk.2⟩)) _ listed a w hc aa (Region.free_spec ho hf) hr' hy (hS aa)
   (qv hsel l _ _ w hB (hc.set hr') (λ_=>hS aa) h)
 |(i,false)::l,listed,a,w,hB,hc,hS,h=>by
  simp only [Vk,Bool.and_eq_true,decide_eq_true_eq] at hB;obtain⟨hr,hB⟩:=hB;refine⟨λh0=>(by rw [h0] at hr;cases hr),λj hj=>?_⟩;have ae:j=i:=by rw [hr] at hj;simpa using hj
  subst ae
  have ad:j<listed.size:=by
   rcases Nat.lt_or_ge j listed.size with h'|h'
   ·exact h'
   have:=(mem_ready.1 hj).1;simp [Array.getElem?_eq_none h'] at this
  refine wpOp_mono (λa' w' ⟨h1,h2⟩=>?_) (xq h);have ac:JE brk (listed.setIfInBounds j true)->S w':=λaa=>h1 (λe=>by have:=aa j e;simp [ad] at this)
  exact⟨ac,qv hsel l _ a' w' hB (hc.set hj) ac h2⟩
theorem q9(l:List Oper):Jv l.toArray (Array.replicate l.length false):=λj oj hj hl=>by
 rw [getD_replicate_false] at hl;cases hl
theorem zd {id:Nat}{a:Act}{w:World}{l:List Oper}(sch:List (Nat×Bool))(brk:Option Nat)(S:World->Prop)(hS:S w.drew)(h:xp P l.toArray S brk Q sch a w.drew)(hm:P.follows .mixedOrders=true:=by kernel_rfl)(hB:(Region.noSelect l.toArray && decide (sch.length=l.length)&& Vk l.toArray brk sch (Array.replicate l.length false))=true:=by kernel_rfl):(Code.region id l.toArray true).wp P Q a w:=by
 simp only [Bool.and_eq_true,decide_eq_true_eq] at hB;obtain⟨⟨h1,h2⟩,h3⟩:=hB;have H:=qv h1 sch _ a w.drew h3 (q9 l) (λ_=>hS) h;rw [h2] at H;exact wp_mono (wp_region_any (Q:=jk Q) hm (by simpa using qI _ _ _ _ H)) (λe a w h=>jk.imp e a w h)
theorem jQ {id k r:Nat}{a:Act}{w:World}{l:List Oper}(sch:List (Nat×Bool))(brk:Option Nat)(S:World->Prop)(hS:S w.drew)(h:xp P l.toArray S brk Q sch a w.drew)(hm:P.follows .mixedOrders=true:=by kernel_rfl)(hB:(V6 l && Region.noSelect l.toArray && decide (sch.length=l.length)&& Vk l.toArray brk sch (Array.replicate l.length false))=true:=by kernel_rfl):(Code.region id l.toArray true).wpIn (Fence.wide.inRound r) k P Q a w:=by
 simp only [Bool.and_eq_true,decide_eq_true_eq] at hB;obtain⟨⟨⟨h0,h1⟩,h2⟩,h3⟩:=hB;have H:=qv h1 sch _ a w.drew h3 (q9 l) (λ_=>hS) h;rw [h2] at H;refine wpIn_mono (wpIn_region_any (Q:=jk Q) hm (ZD r k h0 (λ⟨_,_,h⟩=>h) _ _ _ _ (by simpa using qI _ _ _ _ H))) (λe a w h=>jk.imp e a w h)
variable {brk:Option Nat}
theorem ze {a:Act}{w:World}(h:Q .normal a w):xp P ops S brk Q [] a w:=h
theorem za {i:Nat}{r:List (Nat×Bool)}{o:Oper}{a:Act}{w:World}{v:Value}(ho:ops[i]?=some o)(hg:Region.wanted o (yielded ops a.tmps)=true)
 (h1:∀w',S w'->(execOp a.eval o).run P w'=.ok (.value v) w') (h2:∀K:Act->Prop,(∀a',xp P ops S brk Q r a' w->K a')->K (a.put o.dst v)):xp P ops S brk Q ((i,true)::r) a w:=
 ⟨o,v,ho,.inl ⟨hg,h1⟩,h2 _ (λ_ h=>h)⟩
theorem Wb {R G:Prop} (k:R) (t:R->G:=by intro kk;(repeat (refine za (v:=?_) rfl rfl (λw' h=>?_) (λK k=>?_);rotate_left;obtain⟨f1,_⟩:=h;have e1:=f1.cell;go_simp;(try with_reducible rfl);go_simp;refine k _ ?_;clear k K));exact kk):G:=t k
theorem Wd {R G:Prop} (k:R) (t:R->G:=by intro kk;(repeat (refine za (v:=?_) rfl rfl (λw' h=>?_) (λK k=>?_);rotate_left;obtain⟨f1,f2,_⟩:=h;have e1:=f1.cell;have e2:=f2.cell;go_simp;(try with_reducible rfl);go_simp;refine k _ ?_;clear k K));exact kk):G:=t k
theorem We {R G:Prop} (k:R) (t:R->G:=by intro kk;(repeat (refine za (v:=?_) rfl rfl (λw' h=>?_) (λK k=>?_);rotate_left;obtain⟨f1,f2,f3,_⟩:=h;(try have e1:=f1.cell);(try have e2:=f2.cell);(try have e3:=f3.cell);go_simp;(try with_reducible rfl);go_simp;refine k _ ?_;clear k K));exact kk):G:=t k
theorem Wh {R G:Prop} (k:R) (t:R->G:=by intro kk;(repeat (refine za (v:=?_) rfl rfl (λw' h=>?_) (λK k=>?_);rotate_left;obtain⟨f1,f2,f3,_⟩:=h;have e1:=f1.cell;have e2:=f2.cell;(try have e3:=f3.cell);go_simp;(try with_reducible rfl);go_simp;refine k _ ?_;clear k K));exact kk):G:=t k
theorem Wi {R G:Prop} (k:R) (t:R->G:=by intro kk;(repeat (refine za (v:=?_) rfl rfl (λw' h=>?_) (λK k=>?_);rotate_left;obtain⟨f1,f2,f3,_⟩:=h;have e2:=f2.cell;have e3:=f3.cell;go_simp;(try with_reducible rfl);go_simp;refine k _ ?_;clear k K));exact kk):G:=t k
theorem Wk {R G:Prop} (k:R) (t:R->G:=by intro kk;(repeat (refine za (v:=?_) rfl rfl (λw' h=>?_) (λK k=>?_);rotate_left;obtain⟨f1,f2,f3,f4,f5,_⟩:=h;(try have e1:=f1.cell);(try have e2:=f2.cell);(try have e3:=f3.cell);(try have e4:=f4.cell);(try have e5:=f5.cell);go_simp;(try with_reducible rfl);go_simp;refine k _ ?_;clear k K));exact kk):G:=t k
theorem Wl {R G:Prop} (k:R) (t:R->G:=by intro kk;(repeat (refine za (v:=?_) rfl rfl (λw' h=>?_) (λK k=>?_);rotate_left;obtain⟨f1,_⟩:=h;go_simp;(try with_reducible rfl);go_simp;refine k _ ?_;clear k K));exact kk):G:=t k
theorem Wm {R G:Prop} (k:R) (t:R->G:=by intro kk;(repeat (refine za (v:=?_) rfl rfl (λw' h=>?_) (λK k=>?_);rotate_left;obtain⟨f1,f2,f3,_⟩:=h;have e1:=f1.cell;have e2:=f2.cell;have e3:=f3.cell;go_simp;(try with_reducible rfl);go_simp;refine k _ ?_;clear k K));exact kk):G:=t k
theorem Wn {R G:Prop} (k:R) (t:R->G:=by intro kk;(repeat (refine za (v:=?_) rfl rfl (λw' h=>?_) (λK k=>?_);rotate_left;obtain⟨f1,f2,f3,f4,_⟩:=h;(try have e1:=f1.cell);(try have e2:=f2.cell);(try have e3:=f3.cell);(try have e4:=f4.cell);go_simp;(try with_reducible rfl);go_simp;refine k _ ?_;clear k K));exact kk):G:=t k
theorem Wo {R G:Prop} (k:R) (t:R->G:=by intro kk;(repeat (refine za (v:=?_) rfl rfl (λw' h=>?_) (λK k=>?_);rotate_left;obtain⟨f1,f2,_⟩:=h;have e1:=f1.cell;go_simp;(try with_reducible rfl);go_simp;refine k _ ?_;clear k K));exact kk):G:=t k
theorem Wq {R G:Prop} (k:R) (t:R->G:=by intro kk;(repeat (refine za (v:=?_) rfl rfl (λw' h=>?_) (λK k=>?_);rotate_left;obtain⟨f1,f2,f3,f4,_⟩:=h;have e1:=f1.cell;go_simp;(try with_reducible rfl);go_simp;refine k _ ?_;clear k K));exact kk):G:=t k
theorem Wt {R G:Prop} (k:R) (t:R->G:=by intro kk;(repeat (refine za (v:=?_) rfl rfl (λw' h=>?_) (λK k=>?_);rotate_left;obtain⟨f1,f2,f3,_⟩:=h;have e2:=f2.cell;(try have e3:=f3.cell);go_simp;(try with_reducible rfl);go_simp;refine k _ ?_;clear k K));exact kk):G:=t k
theorem Wu {R G:Prop} (k:R) (t:R->G:=by intro kk;(repeat (refine za (v:=?_) rfl rfl (λw' h=>?_) (λK k=>?_);rotate_left;obtain⟨f1,f2,_⟩:=h;(try have e1:=f1.cell);(try have e2:=f2.cell);go_simp;(try with_reducible rfl);go_simp;refine k _ ?_;clear k K));exact kk):G:=t k
theorem Wv {R G:Prop} (k:R) (t:R->G:=by intro kk;(repeat (refine za (v:=?_) rfl rfl (λw' h=>?_) (λK k=>?_);rotate_left;obtain⟨f1,f2,f3,_⟩:=h;have e3:=f3.cell;go_simp;(try with_reducible rfl);go_simp;refine k _ ?_;clear k K));exact kk):G:=t k
theorem Ww {R G:Prop} (k:R) (t:R->G:=by intro kk;(repeat (refine za (v:=?_) rfl rfl (λw' h=>?_) (λK k=>?_);rotate_left;obtain⟨f1,f2,f3,f4,_⟩:=h;go_simp;(try with_reducible rfl);go_simp;refine k _ ?_;clear k K));exact kk):G:=t k
theorem jj {i:Nat}{r:List (Nat×Bool)}{o:Oper}{a:Act}{w:World}(ho:ops[i]?=some o)(hg:Region.wanted o (yielded ops a.tmps)=false)
 (h2:∀K:Act->Prop,(∀a',xp P ops S brk Q r a' w->K a')->K (a.put o.dst undef)):xp P ops S brk Q ((i,true)::r) a w:=
 ⟨o,undef,ho,.inr ⟨hg,rfl⟩,h2 _ (λ_ h=>h)⟩
theorem Wj {R G:Prop} (k:R) (t:R->G:=by intro kk;(repeat (refine jj rfl rfl (λK hK=>?_);go_simp;refine hK _ ?_;clear hK K));exact kk):G:=t k
theorem zc {i:Nat}{r:List (Nat×Bool)}{o:Oper}{a:Act}{w:World}(ho:ops[i]?=some o)
 (h:∀K:Act->World->Prop,Shut (∀a' w',(brk≠some i->S w')->xp P ops S brk Q r a' w'->K a' w')->wpList P ops (Exit.then K (λ_ _ _=>False)) [o] a w):xp P ops S brk Q ((i,false)::r) a w:=by
 have H:=h (λa' w'=>(brk≠some i->S w')/\xp P ops S brk Q r a' w') (λa' w' h1 h2=>⟨h1,h2⟩)
 show wpOp P ops _ i _ a w
 unfold wpOp;rw [ho];unfold wpList at H;simp only
 split
 ·rename_i hw
  rw [if_pos hw] at H
  rcases H with H|⟨_,_,_,H⟩
  ·refine .inl ?_
   unfold Oper.wp at*
   generalize(execOp a.eval o).run P w=x at*
   cases x with
   |ok n w'=>
    cases n<;>simp only [Oper.upon] at H⊢<;>
     first
      |exact H
      |exact Calls.mono H (λe w'' he=>by cases e<;>first|exact he|exact he.elim|(obtain⟨_,_,h0⟩:=he;exact h0.elim))
      |exact Rows.mono H (λ_ _ he=>he)
   |halt x w'=>cases x<;>simp only [Oper.upon] at H⊢<;>first|exact H|exact H.elim
  exact H.elim
 rename_i hw
 rw [if_neg hw] at H;exact H
end
section
open Go Go.RowKit Go.Shelf Go.Extern.Stop Go.Stop Go.Extern
attribute [local go_sem] Oper.semAt_some zB zp
theorem QN(v:Value)(hv:∃a n c,v=.slice a n c)(w:World):Calls prog 133 #[v] w λe w'=>
 e=.returned (.func (.func 174) #[] #[.pointer (some ⟨w.heap.size,0,none⟩)])/\w'=w.alloc (.cells #[v] 42):=by
 obtain⟨a,n,c,rfl⟩:=hv
 go_enter func133,ntmps133
 go_wp2;go_ret
 exact⟨rfl,rfl⟩
theorem x7(l:List zA)(k:Nat)(x:zA)(h:l[k]?=some x)(j:Nat)(hj:j<3):(l.flatMap zg)[k*3+j]?=(zg x)[j]?:=by
 induction l generalizing k with
 |nil=>simp at h
 |cons y l ih=>
  cases k with
  |zero=>
   simp at h;subst h
   rw [List.flatMap_cons,Nat.zero_mul,Nat.zero_add,U8 (by simp [zg];omega)]
  |succ k=>
   simp at h
   have:=ih k h;rw [List.flatMap_cons,U6 (by simp [zg];omega)];rw [← this]
   congr 1
   simp [zg];omega
theorem V7(cb:Nat)(v:Value)(l:List zA)(hlen:l.length<=1073741824):
 Qr Fence.wide 2 prog 174 #[.pointer (some ⟨cb,0,none⟩)] (λx:zA=> #[y7 x])
  (λ(k:Nat) x=>l[k]?=some x) (λk _=>k+1) (λk=>k=l.length)
  (λ_ W=>Blk W cb #[v] 42/\Src W v 3 l.length (l.flatMap zg)) 0:=by
 intro lp J Jx W hJ hJx hRd hY h0;obtain⟨r0,r1⟩:=hRd _ _ _ h0;have e0:=r0.cell;have hF:Fence.wide.fn 174:=trivial;have ae:Fence.wide.round=none:=rfl
 rcases r1.2 with⟨rfl,hn⟩|⟨b,off,cap,rfl,hc, -⟩
 ·obtain rfl:l=[]:=N9 hn
  clear r0 r1;refine callsIn_of_wp func174 rfl hF ?_ ae;simp only [ntmps174,R8,Nat.reduceAdd,Nat.reduceSub]
  gi_wp2
  gi_loopw [7] (λp wr=>p=.int .i64 0/\wr=W) (λp _=>0)
  case atStart=>exact⟨rfl,rfl⟩
  case round=>
   obtain⟨rfl,rfl⟩:=hrel
   gi_wp2
   go_end0
   exact⟨⟨_,rfl⟩,.inl ⟨0,_,rfl,h0⟩⟩
 clear r0 r1
 refine callsIn_of_wp func174 rfl hF ?_ ae;simp only [ntmps174,R8,Nat.reduceAdd,Nat.reduceSub]
 gi_wp2
 gi_loopw [7] (λp wr=>∃(k:Nat)(X:Nat->Prop),p=.int .i64 (k:Int)/\k<=l.length/\J k X wr) (λp _=>l.length - (intOf p).toNat)
 case atStart=>exact⟨0,_,rfl,Nat.zero_le _,h0⟩
 case round=>
  obtain⟨k,X,rfl,hk,ac⟩:=hrel;clear e0
  by_cases hlt:k<l.length
  ·obtain⟨x,hx⟩:∃x,l[k]?=some x:=⟨_,N3 hlt⟩
   obtain⟨-,r1⟩:=hRd _ _ _ ac
   rcases r1.2 with⟨h, -⟩|⟨b',off',cap',h, -,hr⟩
   ·cases h
   cases h
   have aa:∀j,j<3->wr.cell? ⟨b,off+(k*3+j),none⟩=(zg x)[j]?:=λj hj=>by
    have h1:=x7 l k x hx j hj
    cases hu:(zg x)[j]? with
    |none=>simp [zg] at hu;omega
    |some u=>exact hr _ u (h1.trans hu)
   have c0:wr.cell? ⟨b,off+k*3,none⟩=(zg x)[0]?:=aa 0 (by omega);have c1:wr.cell? ⟨b,off+k*3+1,none⟩=(zg x)[1]?:=aa 1 (by omega);have c2:wr.cell? ⟨b,off+k*3+2,none⟩=(zg x)[2]?:=aa 2 (by omega);have ad:=hY k x _ _ (hJ.alloc (.cells (zg x).toArray 78) ac) hx;obtain⟨⟨i,c⟩,d⟩:=x;simp only [zg] at c0 c1 c2 ad;simp only [List.getElem?_cons_zero,List.getElem?_cons_succ] at c0 c1 c2;clear aa hr r1;obtain⟨fn,tmps,assign,body,hy,hR⟩:=ad;unfold y7 at hy
   gi_wp2
   refine hR.mono ?_;rintro e W'(⟨rfl,ag, -⟩|⟨rfl,af⟩)
   ·clear c0 c1 c2 hR hy
    gi_wp2
    go_roundw
    case rel=>exact⟨k+1,_,by go_num,by omega,ag⟩
    case measure=>simp [intOf];omega
   gi_wp2
   refine bodyPost_ret (results_none rfl _ _ _) rfl ?_;exact⟨⟨_,rfl⟩,.inr ⟨_,af⟩⟩
  obtain rfl:k=l.length:=by omega
  gi_wp2
  go_end0
  exact⟨⟨_,rfl⟩,.inl ⟨l.length,X,rfl,ac⟩⟩
end
section
open Go Go.RowKit
variable {P:Program}
def Zt(ps:Array Tmp)(vs:Array Value)(t:Array Value):Array Value:=(ps.zip vs).foldl (λt (p,v)=>t.setIfInBounds p v) t
theorem zW(p:Tmp)(v:Value)(t:Array Value):Zt #[p] #[v] t=t.setIfInBounds p v:=by simp [Zt]
theorem vT(p q:Tmp)(u v:Value)(t:Array Value):Zt #[p,q] #[u,v] t=(t.setIfInBounds p u).setIfInBounds q v:=by simp [Zt]
theorem yJ {α σ:Type}{g:Operand}{ps:Array Tmp}{assign body:Code}{Q:Exit->Act->World->Prop}{a:Act}{w:World}
 {gf:Nat} {lb:Array Value} (hg:a.eval g=.func (.func gf) #[] lb) (eg:∀args w,(callFunc gf args).run P w=.ok (.enter gf args) w)
 {encs:α->Array Value} {nx:σ->α->Prop} {st:σ->α->σ} {fin:σ->Prop} {Rd:σ->World->Prop} {s0:σ} (hit:Qr Fence.wide 2 P gf lb encs nx st fin Rd s0) (hps:∀x,(encs x).size=ps.size)
 (I:σ->(Nat->Prop)->World->Prop) (Ix:Code->(Nat->Prop)->World->Prop) (hI:Qq I) (hIx:∀c,Qq λ(_:Unit)=>Ix c) (hRd:∀s X W,I s X W->Rd s W)
 (hX:∀s X W,I s X W->w.heap.size<=W.heap.size/\∀k,X k->k<W.heap.size) (h0:I s0 (λ_=>False) w)
 (d:Tmp) (T:TypeId) (cells:α->Array Value)
 (hassign:∀(l:Nat)(x:α)(W:World)(K:Act->World->Prop),K {tmps:=(Zt ps (encs x) a.tmps).setIfInBounds d (.pointer (some ⟨W.heap.size,0,none⟩)),defers:=[] } (W.alloc (.cells (cells x) T))->
  assign.wpIn (Fence.wide.inRound l) 1 P (Exit.then K (λ_ _ _=>False)) {tmps:=Zt ps (encs x) a.tmps,defers:=[] } W)
 (hbody:∀(l:Nat)(s:σ)(x:α)(cb:Nat)(X X1:Nat->Prop)(W1 W:World),I s X1 W1->I s X W->nx s x->W1.heap.size<=cb->w.heap.size<=cb->¬X cb->Blk W cb (cells x) T->X l->(∃r,W.heap[l]?=some (.loop r))->
  body.wpIn (Fence.wide.inRound l) 1 P (zfC I Ix (st s x) X W) {tmps:=(Zt ps (encs x) a.tmps).setIfInBounds d (.pointer (some ⟨cb,0,none⟩)),defers:=[] } W)
 (hdone:∀(D:Nat)(s:σ)(X:Nat->Prop)(W:World),w.heap.size<=D->X D->fin s->I s X W->W.heap[D]?=some (.deferred (some []))->Q .normal {a with defers:={target:=.collected D,args:=#[] } ::a.defers} W)
 (hstop:∀(D:Nat)(c:Code)(X:Nat->Prop)(W:World),w.heap.size<=D->X D->Ix c X W->W.heap[D]?=some (.deferred (some []))->c.wp P Q {a with defers:={target:=.collected D,args:=#[] } ::a.defers} W):
 (Code.rangeFunc g ps assign body).wp P Q a w:=by
 refine VZ hg eg hit hps I Ix hI hIx hRd h0
  (λs x a' X W=>∃cb X1 W1,a'={tmps:=(Zt ps (encs x) a.tmps).setIfInBounds d (.pointer (some ⟨cb,0,none⟩)),defers:=[] } /\I s X1 W1/\I s X W/\nx s x/\W1.heap.size<=cb/\w.heap.size<=cb/\¬X cb/\Blk W cb (cells x) T)
  ?ax ?assign ?body hdone hstop
 case ax=>
  rintro s x a' u X X' W W'⟨cb,X1,W1,ha,h1,h2,h3,h4,h5,h6,h7⟩ hm hx;exact⟨cb,X1,W1,ha,h1,hI _ _ _ _ _ h2 hm hx,h3,h4,h5,λh=>(hx cb h).elim h6 (λh'=>by have:=h7.lt;omega),h7.mod hm h6⟩
 case assign=>
  intro l s x X W K h hn hK;have hw:=hX _ _ _ h;have ac:¬X W.heap.size:=λe=>by have:=hw.2 _ e;omega
  refine hassign l x W K (hK _ _ ⟨W.heap.size,X,W,rfl,h,?_,hn,N0 _,hw.1,ac,Blk.new rfl⟩ (jJ.of_mod (Mod.alloc (λ_=>False) _ _) (λ_ _ _ h=>h)));exact hI _ _ _ _ _ h (Mod.alloc _ _ _) (λk hk=>.inl hk)
 case body=>
  rintro l s x a' X W⟨cb,X1,W1,rfl,h1,h2,h3,h4,h5,h6,h7⟩ aa hr;exact hbody l s x cb X X1 W1 W h1 h2 h3 h4 h5 h6 h7 aa hr
theorem vg {α σ:Type}{g:Operand}{ps:Array Tmp}{assign body:Code}{Q:Exit->Act->World->Prop}{a:Act}{w:World}
 {gf:Nat} {lb:Array Value} (hg:a.eval g=.func (.func gf) #[] lb) (eg:∀args w,(callFunc gf args).run P w=.ok (.enter gf args) w)
 {encs:α->Array Value} {nx:σ->α->Prop} {st:σ->α->σ} {fin:σ->Prop} {Rd:σ->World->Prop} {s0:σ} (hit:Qr Fence.wide 2 P gf lb encs nx st fin Rd s0) (hps:∀x,(encs x).size=ps.size)
 (I:σ->(Nat->Prop)->World->Prop) (Ix:Code->(Nat->Prop)->World->Prop) (hI:Qq I) (hIx:∀c,Qq λ(_:Unit)=>Ix c) (hRd:∀s X W,I s X W->Rd s W) (h0:I s0 (λ_=>False) w)
 (sets:α->List (Tmp×Value))
 (hassign:∀(l:Nat)(x:α)(W:World)(K:Act->World->Prop),K {tmps:=(sets x).foldl (λt p=>t.setIfInBounds p.1 p.2) (Zt ps (encs x) a.tmps),defers:=[] } W->
  assign.wpIn (Fence.wide.inRound l) 1 P (Exit.then K (λ_ _ _=>False)) {tmps:=Zt ps (encs x) a.tmps,defers:=[] } W)
 (hbody:∀(l:Nat)(s:σ)(x:α)(X:Nat->Prop)(W:World),I s X W->nx s x->X l->(∃r,W.heap[l]?=some (.loop r))->
  body.wpIn (Fence.wide.inRound l) 1 P (zfC I Ix (st s x) X W) {tmps:=(sets x).foldl (λt p=>t.setIfInBounds p.1 p.2) (Zt ps (encs x) a.tmps),defers:=[] } W)
 (hdone:∀(D:Nat)(s:σ)(X:Nat->Prop)(W:World),w.heap.size<=D->X D->fin s->I s X W->W.heap[D]?=some (.deferred (some []))->Q .normal {a with defers:={target:=.collected D,args:=#[] } ::a.defers} W)
 (hstop:∀(D:Nat)(c:Code)(X:Nat->Prop)(W:World),w.heap.size<=D->X D->Ix c X W->W.heap[D]?=some (.deferred (some []))->c.wp P Q {a with defers:={target:=.collected D,args:=#[] } ::a.defers} W):
 (Code.rangeFunc g ps assign body).wp P Q a w:=
 zeF hg eg hit hps I Ix hI hIx hRd h0 (λx=> {tmps:=(sets x).foldl (λt p=>t.setIfInBounds p.1 p.2) (Zt ps (encs x) a.tmps),defers:=[] })
  (λl x W K hK=>hassign l x W K hK) (λl s x X W h hn hl hr=>hbody l s x X W h hn hl hr) hdone hstop
end
open Go Go.RowKit Go.Shelf Go.Extern.Stop Go.Stop Go.Extern
open Go.Lib
attribute [local go_sem] Oper.semAt_some zB zp
def u8s(l:List UInt8):List Value:=l.map λb=>Value.int .u8 b.toNat
theorem zdn(l:List UInt8):strCells (bs l)=u8s l:=by simp [strCells,u8s,bs]
theorem QO(a b:List UInt8):u8s (a++b)=u8s a++u8s b:=by simp [u8s]
theorem zhE:Yc prog 49 5 1 1 (.int .u8 0):=⟨Tryz.underlying49,by kernel_rfl,rfl,by decide,by decide⟩
theorem zmV:Yc prog 107 9 1 16 (.string ⟨#[]⟩):=⟨Tryz.underlying107,by kernel_rfl,rfl,by decide,by decide⟩
def yR(ts:List (List UInt8)):List Value:=ts.map λt=>Value.string (bs t)
theorem zhF(ts:List (List UInt8)):∀u∈yR ts,u.oneCell'=true:=by
 intro u hu;simp [yR] at hu;obtain⟨t,_,rfl⟩:=hu;rfl
theorem zlc {base:Nat}{w:World}{e:TypeId}{size:Nat}{v:Value}{n:Nat}{xs:List Value}(h:w.ownsRow base e size v n xs):Src w v size n xs:=Row.src (e:=e) ⟨h.1,by
 rcases h.2 with h|⟨g',c',cu,h,hb',r⟩
 ·exact .inl h
 exact .inr ⟨g',c',cu,h,Nat.zero_le _,r⟩⟩
theorem zdo {base:Nat}{w:World}{v:Value}{l s:List UInt8}(h:w.ownsRow base 5 1 v l.length (u8s l))(hb:l.length+s.length<=1073741824)(hB:base<=w.heap.size)(ty:TypeId):
 ∃v' w',(Builtin.append_ #[49,9] ty #[v,.string (bs s)]).run prog w=.ok v' w'/\w'.ownsRow base 5 1 v' (l++s).length (u8s (l++s))/\w.grownBy w' v.ownBlock:=by
 obtain⟨i,hi,ad,aa,ac⟩:=info_parts zhE.info;obtain⟨v',w',h1,h2,h3, -⟩:=run_append_own_string (P:=prog) w base 49 9 ty 5 i zhE.under Tryz.underlying9 hi ad aa ac v _ _ h (bs s) (by rw [zL];unfold maxLen;omega) (by rw [zL];omega) hB;refine⟨v',w',h1,?_,h3⟩;rw [zdn,zL] at h2;rw [N1,QO];exact h2
theorem YQ {P:Program}{w:World}{ops:Array Oper}{rest:List Oper}{o:Oper}{a:Act}{Q:Exit->Act->World->Prop}(hgd:o.guard=none)(s x:Operand)(t u:TypeId)
 (ho:o.op=.call {callee:=.builtin .append,args:=#[s,x],argTypes:=#[t,u] }) {v src:Value} (hs:a.eval s=v) (hx:a.eval x=src)
 {v':Value} {w':World} (hr:(Builtin.append_ #[t,u] o.type #[v,src]).run P w=.ok v' w') (h:wpList P ops Q rest (a.put o.dst v') w'):wpList P ops Q (o::rest) a w:=by
 refine wpList_plain hgd λK hK=>?_
 unfold Oper.wp execOp;simp only [ho,resolve,invoke,builtin,Sem.run_bind,Sem.run_pure,Result.andThen_ok,List.map_toArray,List.map_cons,List.map_nil,hs,hx,hr];exact hK _ _ h
theorem V8(l:List UInt8):strOfNums (l.map λb:UInt8=>(b.toNat:Int))=bs l:=by
 unfold strOfNums bs;congr 1;simp [Function.comp_def]
theorem Ye(ts:List (List UInt8))(k:Nat)(x:List UInt8)(h:ts[k]?=some x):(ts.take (k+1)).flatten=(ts.take k).flatten++x:=by
 rw [List.take_add_one,h];simp
theorem zbC(ts:List (List UInt8))(k:Nat):(ts.take k).flatten.length<=ts.flatten.length:=by
 have:=congrArg (λl=>l.flatten.length) (List.take_append_drop k ts);simp only [List.flatten_append,N1] at this;omega
theorem QP {w:World}{v:Value}{l:List UInt8}(h:Src w v 1 l.length (u8s l)):(convert 49 9 v).run prog w=.ok (.string (bs l)) w:=by
 rcases h.2 with⟨rfl,hn⟩|⟨b,off,cap,rfl,hc,hr⟩
 ·obtain rfl:l=[]:=N9 hn
  exact run_convert_bytes_nil (P:=prog) w 49 5 Tryz.underlying49 Tryz.underlying5 0 0 9 Tryz.underlying9
 have:=run_convert_bytes_arg (P:=prog) w 49 5 Tryz.underlying49 Tryz.underlying5 b off l.length cap (l.map λb:UInt8=>(b.toNat:Int)) (by simp) (λi hi=>by
  refine hr i _ ?_
  simp [u8s,hi]) 9 Tryz.underlying9
 rw [this,V8]
def zay(ts:List (List UInt8))(k:Nat):Nat:=(ts.take k).flatten.length
theorem Yf {ts:List (List UInt8)}{k:Nat}{x:List UInt8}(h:ts[k]?=some x):zay ts (k+1)=zay ts k+x.length:=by
 unfold zay;rw [Ye ts k x h,N1]
theorem V9(ts:List (List UInt8))(k:Nat):zay ts k<=zay ts ts.length:=by
 have:=zbC ts k;simpa [zay] using this
theorem zdp(v:Value)(ts:List (List UInt8))(w:World)(hv:Src w v 1 ts.length (yR ts))(h0:0<ts.length)(hl:ts.length<=1000000)(hb:zay ts ts.length<=1073741824):Calls prog 135 #[v] w λe w'=>
 e=.returned (.string (bs ts.flatten))/\Below w.heap.size w w':=by
 obtain⟨i0,hi,ap,an,al⟩:=info_parts zhE.info
 rcases hv.2 with⟨rfl,hn⟩|⟨b,off,cap,rfl,hc,hr⟩
 ·omega
 clear hv h0
 go_enter func135,ntmps135
 go_wp2
 go_loop [3,11] (λp3 p11=>∃k:Nat,k<=ts.length/\p11=.int .i64 k/\p3=.int .i64 (zay ts k:Nat)) (λ_ p11=>ts.length - (RowKit.intOf p11).toNat)
 case atStart=>exact⟨0,Nat.zero_le _,rfl,rfl⟩
 case round=>
  obtain⟨k,hk,rfl,rfl⟩:=hrel
  by_cases hlt:k<ts.length
  ·obtain⟨x,hx⟩:∃x,ts[k]?=some x:=⟨_,N3 hlt⟩
   have ar:w.cell? ⟨b,off+k,none⟩=some (.string (bs x)):=hr k _ (by simp [yR,hx]);have ay:=V9 ts k;have au:=V9 ts (k+1);have ac:=Yf hx;have ah:=zL x;rw [ac] at au;have ax:((bs x).size:Int)<=1073741824:=by rw [ah];omega
   replace ac:=hid ac;replace ah:=hid ah;replace hx:=hid hx;clear hr;go_wp2
   go_round
   case rel=>exact⟨k+1,by omega,by go_num,by rw [ac.out];have:=ah.out;go_num⟩
   case measure=>simp [RowKit.intOf];omega
  obtain rfl:k=ts.length:=by omega
  replace hr:=hid hr;obtain⟨w1,aq,ad,ae⟩:=run_make_own (P:=prog) w w.heap.size 49 5 i0 (.int .u8 0) 1 zhE.under hi ap an .i64 .i64 (zay ts ts.length) (by rw [al];omega) (by unfold maxLen;omega) (N0 _);have ao:Below w.heap.size w w1:=(N2 _ _).grown ae (N0 _) (λ_ h=>by cases h);clear ae hi ap an al;go_wp2;clear aq
  go_loopw [6,24] (λp6 p24 wr=>∃k:Nat,k<=ts.length/\p24=.int .i64 k/\wr.ownsRow w.heap.size 5 1 p6 (ts.take k).flatten.length (u8s (ts.take k).flatten)/\Below w.heap.size w wr) (λ_ p24 _=>ts.length - (RowKit.intOf p24).toNat)
  case atStart=>exact⟨0,Nat.zero_le _,rfl,ad,ao⟩
  case round=>
   obtain⟨k,hk,rfl,aa,ag⟩:=hrel;clear ad ao
   by_cases hlt:k<ts.length
   ·obtain⟨x,hx⟩:∃x,ts[k]?=some x:=⟨_,N3 hlt⟩
    have ar:wr.cell? ⟨b,off+k,none⟩=some (.string (bs x)):=(ag.cell (jO (hr.out k (.string (bs x)) (by simp [yR,hx])))).trans (hr.out k _ (by simp [yR,hx]));have ac:=Ye ts k x hx
    have aj:(ts.take k).flatten.length+x.length<=1073741824:=by
     have h1:=V9 ts (k+1);rw [Yf hx] at h1;have h2:zay ts k=(ts.take k).flatten.length:=rfl;omega
    replace ac:=hid ac;replace aj:=hid aj;replace hx:=hid hx
    generalize hacc:(ts.take k).flatten=acc at*
    replace hacc:=hid hacc
    go_wp2_with (at_builtin
                 obtain⟨v',w2,af,ak,am⟩:=zdo aa aj.out ag.size 49;refine YQ rfl _ _ _ _ rfl rfl rfl af ?_
                 have ai:=ag.grown am ag.size (λg hg=>by
                  rcases aa.2 with⟨h,_⟩|⟨g',c',cu,h,hb',_⟩
                  ·rw [h] at hg;cases hg
                  rw [h] at hg;cases hg;exact hb')
                 clear af am)
    go_roundw
    case rel=>exact⟨k+1,by omega,by go_num,by rw [ac.out];exact ak,ai⟩
    case measure=>simp [RowKit.intOf];omega
   obtain rfl:k=ts.length:=by omega
   rw [List.take_length] at aa;have aw:=QP (zlc aa);clear aa hc hr;go_wp2;go_ret
   exact⟨rfl,ag⟩
