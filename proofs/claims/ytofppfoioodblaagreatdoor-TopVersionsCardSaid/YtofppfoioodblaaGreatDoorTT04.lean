/- PARTS OF THE PROOF. -/
import Derived.StillTail
import Derived.StillTactics
import Derived.OrdersIn
import Derived.TacticsIn
import Derived.Deep.RegionHeld
import Derived.Test.YtofppfoioodblaaGreatDoorTT01
import Derived.Test.YtofppfoioodblaaGreatDoorTT03
set_option maxRecDepth 8000
set_option maxHeartbeats 4000000
open Go.Proofs.Tryz
namespace Go.Proofs.YtofppfoioodblaaGreatDoor
section
open Go Go.RowKit Go.Shelf Go.Extern.Stop Go.Stop Go.Extern
attribute [local go_sem] Oper.semAt_some zv zm
def idV(k:MId):Value:=.agg #[.int .i64 k.1,.int .u32 k.2]
def vo(m:zy):Value:=.agg #[.int .i64 m.1.1,.int .u32 m.1.2,.string (bs m.2)]
def zh(m:zy):List Value:=[.int .i64 m.1.1,.int .u32 m.1.2,.string (bs m.2)]
theorem yH(i:Int)(w:World):Calls prog 132 #[.int .i64 i] w λe w'=>e=.returned (.bool (vi i))/\w'=w:=by
 by_cases h:i<0
 ·have t0:decide (0<=i)=false:=by simp;omega
  go_enter func132,ntmps132
  go_wp2;go_ret
  exact⟨by simp [vi,t0],rfl⟩
 ·have t0:decide (0<=i)=true:=by simp;omega
  go_enter func132,ntmps132
  go_wp2;go_ret
  exact⟨by simp [vi,t0],rfl⟩
theorem vH(i:Int)(c:Nat)(d:List UInt8)(w:World):Calls prog 91 #[.agg #[.int .i64 i,.int .u32 c,.string (bs d)]] w λe w'=>
 e=.returned (.bool (zB ((i,c),d)))/\Below w.heap.size w w':=by
 have hs:=zJ d
 cases hn:vi i
 ·have hr:zB ((i,c),d)=false:=by simp only [vi] at hn;simp [zB,hn]
  go_enter func91,ntmps91
  go_wp2_with (go_at_call 132;refine(yH _ _).mono ?_;rintro e w1 ⟨rfl,rfl⟩)
  go_ret
  exact⟨by rw [hr];rfl,pbx⟩
 ·have hn':decide (0<=i)=true/\decide (i<16)=true:=by simpa [vi] using hn
  by_cases hl:d.length<=1000
  ·have t1:decide ((1000:Int)<((bs d).size:Int))=false:=by rw [hs];simp;omega
   by_cases h1:1<=c
   ·have t2:decide (1<=(c:Int))=true:=by simp;omega
    by_cases h2:c<=4294967294
    ·have t3:decide ((c:Int)<=4294967294)=true:=by simp;omega
     have hr:zB ((i,c),d)=true:=by simp only [zB,hn'.1,hn'.2];simp [hl,h1,h2]
     clear hs hl h1 h2
     go_enter func91,ntmps91
     go_wp2_with (go_at_call 132;refine(yH _ _).mono ?_;rintro e w1 ⟨rfl,rfl⟩)
     go_ret
     exact⟨by rw [hr];rfl,pbx⟩
    ·have t3:decide ((c:Int)<=4294967294)=false:=by simp;omega
     have hr:zB ((i,c),d)=false:=by simp [zB,h2]
     clear hs hl h1 h2
     go_enter func91,ntmps91
     go_wp2_with (go_at_call 132;refine(yH _ _).mono ?_;rintro e w1 ⟨rfl,rfl⟩)
     go_ret
     exact⟨by rw [hr];rfl,pbx⟩
   ·have t2:decide (1<=(c:Int))=false:=by simp;omega
    have hr:zB ((i,c),d)=false:=by simp [zB,h1]
    clear hs hl h1
    go_enter func91,ntmps91
    go_wp2_with (go_at_call 132;refine(yH _ _).mono ?_;rintro e w1 ⟨rfl,rfl⟩)
    go_ret
    exact⟨by rw [hr];rfl,pbx⟩
  ·have t1:decide ((1000:Int)<((bs d).size:Int))=true:=by rw [hs];simp;omega
   have hr:zB ((i,c),d)=false:=by simp [zB,hl]
   clear hs hl
   go_enter func91,ntmps91
   go_wp2_with (go_at_call 132;refine(yH _ _).mono ?_;rintro e w1 ⟨rfl,rfl⟩)
   go_ret
   exact⟨by rw [hr];rfl,pbx⟩
def jN(tk:List Nat)(lv:Value)(mb:Nat):Array Value:=((tk.map λn:Nat=>Value.int .u32 (n:Int))++ [lv,.map (some mb)]).toArray
def jR(B:Nat)(b:vw)(t:List Nat)(ow:Own)(W:World):Prop:=
 vO b/\∃lv mb,Blk W B (jN b.tk lv mb) 358/\Row W 78 3 lv b.log.length (b.log.flatMap zh)/\jc W mb idV (b.ws.map λp=>(p.1,vo p.2))/\
  ow B=t/\ow mb=t/\∀g,lv.ownBlock=some g->ow g=t
theorem q9(tk:List Nat)(lv:Value)(mb:Nat)(i:Nat)(h:tk.length=16)(hi:i<16):(jN tk lv mb)[i]?=some (.int .u32 (tk[i]?.getD 0:Nat)):=by
 have:i<tk.length:=by omega
 simp [jN,List.getElem?_append_left,this]
theorem Jp(tk:List Nat)(lv:Value)(mb:Nat)(h:tk.length=16):(jN tk lv mb)[16]?=some lv:=by
 simp [jN,h]
theorem xy(tk:List Nat)(lv:Value)(mb:Nat)(h:tk.length=16):(jN tk lv mb)[17]?=some (.map (some mb)):=by
 simp [jN,h]
theorem jR.loc(B:Nat)(b:vw)(t:List Nat):yK t (jR B b t):=by
 rintro ow ow' W W'⟨hok,lv,mb,hB,hR,hM,o1,o2,o3⟩ hs hk;have kB:=hk B hB.lt (by rw [o1];exact Sub.rfl' t);have kM:=hk mb hM.lt (by rw [o2];exact Sub.rfl' t);refine⟨hok,lv,mb,hB.kept kB.2,hR.kept (λg hg=>(hk g (hR.lt hg) (by rw [o3 g hg];exact Sub.rfl' t)).2),hM.kept kM.2,kB.1.trans o1,kM.1.trans o2,λg hg=>?_⟩;exact((hk g (hR.lt hg) (by rw [o3 g hg];exact Sub.rfl' t)).1).trans (o3 g hg)
theorem zjN(t:List Nat)(ow:Own)(w:World):Calls prog 172 #[] w λe w'=>
 ∃B ow',e=.returned (.pointer (some ⟨B,0,none⟩))/\zq t ow w ow' w'/\Below w.heap.size w w'/\jR B xL t ow' w':=by
 have hmm:= @run_makeMap prog
 go_enter func172,ntmps172
 go_wp2;go_ret
 refine⟨w.heap.size+1,ow.ext w.heap.size (λ_=>True) t,rfl,(zq.of_below t ow (pbx)).own (λk hk=>Own.ext_old hk),pbx,⟨rfl,by simp [xL],by simp [xL]⟩,.slice none 0 0,w.heap.size,Blk.new (by simp),z7 _ _ _,?_,Own.ext_new (by omega) trivial,Own.ext_new (by omega) trivial,by simp [Value.ownBlock]⟩;exact(jc.made w idV).kept (U4 _ _ _ (by simp))
theorem zdE(B:Nat)(b:vw)(t:List Nat)(ow:Own)(i:Int)(w:World)(hb:jR B b t ow w):Calls prog 361 #[.pointer (some ⟨B,0,none⟩),.int .i64 i] w λe w'=>
 e=.returned (.int .u32 (ZG b i:Nat))/\w'=w:=by
 obtain⟨hok,lv,mb,hB, -⟩:=hb
 cases hn:vi i
 ·have hr:ZG b i=0:=by simp [ZG,hn]
  go_enter func361,ntmps361
  go_wp2_with (go_at_call 132;refine(yH _ _).mono ?_;rintro e w1 ⟨rfl,rfl⟩)
  go_ret
  exact⟨by rw [hr];rfl,rfl⟩
 ·obtain⟨k,rfl,hk⟩:∃k:Nat,i=k/\k<16:=⟨i.toNat,by simp [vi] at hn;omega,by simp [vi] at hn;omega⟩
  have hr:ZG b k=((b.tk[k]?.getD 0)+1)% 4294967296:=by simp [ZG,hn]
  have hc:w.cell? ⟨B,k,none⟩=some (.int .u32 (b.tk[k]?.getD 0:Nat)):=(hB.cell k).trans (q9 b.tk lv mb k hok.sixteen hk);clear hB
  go_enter func361,ntmps361
  go_wp2_with (go_at_call 132;refine(yH _ _).mono ?_;rintro e w1 ⟨rfl,rfl⟩)
  go_ret
  exact⟨congrArg (λz=>Ending.returned (Value.int .u32 z)) (by rw [hr];omega),rfl⟩
theorem zkH(n:Nat)(b:Bool)(x:Int)(y:Nat)(w:World):(Instr.checkKey b (n+1+1) 76 (.agg #[.int .i64 x,.int .u32 y])).run prog w=.ok () w:=by
 simp [Instr.checkKey,go_sem]
theorem QM:x4 prog 76 idV where
 eq:=λk k' w=>by
  obtain⟨a,b⟩:=k;obtain⟨c,d⟩:=k';have h:(Op.equal 76 (idV (a,b)) (idV (c,d))).run prog w=(Op.equalIn 10000 76 (.agg #[.int .i64 a,.int .u32 b]) (.agg #[.int .i64 c,.int .u32 d])).run prog w:=rfl;rw [h];simp [go_sem]
  by_cases h1:a=c<;>by_cases h2:b=d<;>simp [h1,h2] <;>omega
 chk:=λb k w=>zkH 9998 b k.1 k.2 w
 bits:=λk=>by simp [idV,Instr.sameBits]
 now:=⟨_,Tryz.underlying76,λk k'=>by left;rfl⟩
theorem zdF(w:World):(zeroValue 78).run prog w=.ok (.agg #[.int .i64 0,.int .u32 0,.string ⟨#[]⟩]) w:=by
 kernel_rfl
theorem zgk(B:Nat)(b:vw)(t:List Nat)(ow:Own)(i:Int)(c:Nat)(w:World)(hb:jR B b t ow w):Calls prog 365 #[.pointer (some ⟨B,0,none⟩),.agg #[.int .i64 i,.int .u32 c]] w λe w'=>
 e=.returned (.bool (zgi b (i,c)))/\Below w.heap.size w w':=by
 obtain⟨hok,lv,mb,hB, -,hM, -⟩:=hb
 cases hn:vi i
 ·have hr:zgi b (i,c)=false:=by simp [zgi,hn]
  go_enter func365,ntmps365
  go_wp2_with (go_at_call 132;refine(yH _ _).mono ?_;rintro e w1 ⟨rfl,rfl⟩)
  go_ret
  exact⟨by rw [hr];rfl,pbx⟩
 ·obtain⟨k,rfl,hk⟩:∃k:Nat,i=k/\k<16:=⟨i.toNat,by simp [vi] at hn;omega,by simp [vi] at hn;omega⟩
  by_cases hc1:c<1
  ·have t1:decide ((c:Int)<1)=true:=by simp;omega
   have hr:zgi b (k,c)=false:=by simp [zgi];omega
   clear hc1
   go_enter func365,ntmps365
   go_wp2_with (go_at_call 132;refine(yH _ _).mono ?_;rintro e w1 ⟨rfl,rfl⟩)
   go_ret
   exact⟨by rw [hr];rfl,pbx⟩
  ·have t1:decide ((c:Int)<1)=false:=by simp;omega
   have hc2:decide (1<=c)=true:=by simp;omega
   obtain⟨W1,hW1⟩:∃W1,w.alloc (.cells #[.int .i64 k,.int .u32 c] 76)=W1:=⟨_,rfl⟩;have hM1:jc W1 mb idV (b.ws.map λp=>(p.1,vo p.2)):=hM.kept (by rw [← hW1];exact U4 _ _ _ hM.lt)
   have hlk0:∀W':World,W'.heap[mb]?=W1.heap[mb]?->(Instr.lookup 138 (.map (some mb)) (.agg #[.int .i64 k,.int .u32 c]) true).run prog W'=.ok (.tuple #[((zD ((k:Int),c) b.ws).map vo).getD (.agg #[.int .i64 0,.int .u32 0,.string ⟨#[]⟩]),.bool (zD ((k:Int),c) b.ws).isSome]) W':=λW' hW'=>by
    have:=(hM1.kept (w':=W') hW').lookup_ok QM Tryz.underlying138 (zdF W') ((k:Int),c);rw [xx,Option.isSome_map] at this;exact this
   have hlk:=hlk0 W1.drew rfl;have hlk2:∀o,_:=λo=>hlk0 (W1.alloc o).drew (U4 _ _ _ hM1.lt)
   clear hlk0
   have ht:W1.cell? ⟨B,k,none⟩=some (.int .u32 (b.tk[k]?.getD 0:Nat)):=by
    rw [← hW1];exact((hB.alloc _).cell k).trans (q9 b.tk lv mb k hok.sixteen hk)
   have hm:W1.cell? ⟨B,17,none⟩=some (.map (some mb)):=by
    rw [← hW1];exact((hB.alloc _).cell 17).trans (xy b.tk lv mb hok.sixteen)
   have ci:W1.cell? ⟨w.heap.size,0,none⟩=some (.int .i64 k):=by rw [← hW1];simp
   have cc:W1.cell? ⟨w.heap.size,1,none⟩=some (.int .u32 c):=by rw [← hW1];simp
   have hB1:Below w.heap.size w W1:=by rw [← hW1];exact(N2 _ _).alloc (N0 _) _
   have hlt:B<W1.heap.size:=by rw [← hW1];exact(hB.alloc _).lt
   have hlt0:w.heap.size<W1.heap.size:=by rw [← hW1];simp
   clear hM hM1 hB hc1
   have hr:zgi b (k,c)=((zD ((k:Int),c) b.ws).isSome||decide (c<=b.tk[k]?.getD 0)):=by
    simp only [zgi,hn,hc2,Int.toNat_natCast];simp
   obtain⟨mv,hmv⟩:∃mv,((zD ((k:Int),c) b.ws).map vo).getD (.agg #[.int .i64 0,.int .u32 0,.string ⟨#[]⟩])=mv:=⟨_,rfl⟩
   cases hl:(zD ((k:Int),c) b.ws).isSome
   all_goals
    rw [hl] at hr;simp only [hl,hmv] at hlk hlk2
    obtain⟨m0,hm0⟩:∃m0:zy,mv=vo m0:=by
     rw [← hmv];cases zD ((k:Int),c) b.ws with
     |none=>exact⟨((0,0),[]),rfl⟩
     |some m=>exact⟨m,rfl⟩
    rw [hm0] at hlk hlk2;unfold vo at hlk hlk2;clear hl hmv;rw [hr]
    go_enter func365,ntmps365
    go_wp2_with (first
     |(rw [hW1])
     |(go_at_call 132;refine(yH _ _).mono ?_;rintro e w1 ⟨rfl,rfl⟩))
    apply ZN (Wp:=λw'=>Below w1.heap.size w1 w')
    case h=>
     go_region
     all_goals exact ZM (pbx)
    case h2=>
     rintro w5 hb5;replace ht:=(hb5.cell (p:=⟨B,k,none⟩) hlt).trans ht;replace ci:=(hb5.cell (p:=⟨w.heap.size,0,none⟩) hlt0).trans ci;replace cc:=(hb5.cell (p:=⟨w.heap.size,1,none⟩) hlt0).trans cc;go_wp2
     go_quiet (fail)
     go_wp2;go_ret
     exact⟨rfl,below_drewN (zg hB1 hb5) _⟩
end
section
open Go Go.RowKit
theorem zex {P:Program}{o:Oper}{a:Act}{w:World}{K:Act->World->Prop}{Q:Exit->Act->World->Prop}(l n:Nat)(hd:∀c,o.op≠ .defer c)(h:o.wp P a w K Q):o.wpIn (Fence.wide.inRound l) n P a w K Q:=by
 unfold Oper.wpIn;refine⟨λ_ _=>trivial,?_⟩;have hs:o.semAt (Fence.wide.inRound l).round a.eval=execOp a.eval o:=Oper.semAt_some l _ _ hd;rw [hs];unfold Oper.wp at h
 revert h
 generalize(execOp a.eval o).run P w=r
 intro h
 cases r with
 |ok nx w'=>
  cases nx with
  |value v=>exact h
  |skip=>exact h
  |defer d=>exact h
  |enter f args=>exact⟨(λe=>by cases e),CallsIn.inRound l (callsIn_wide.2 h)⟩
  |row row args=>exact⟨(λe=>by cases e),λc cs _=>by obtain⟨v,w'',r,s⟩:=h c cs;exact⟨v,w'',r,stepsIn_wide.2 s⟩⟩
  |_=>exact h.elim
 |halt x w'=>cases x<;>first|exact h|exact h.elim
def Vt(ops:List Oper):Bool:=ops.all λo=>match o.op with| .defer _=>false|_=>true
theorem zaL {ops:List Oper}(h:Vt ops=true){o:Oper}(ho:o∈ops):∀c,o.op≠ .defer c:=by
 intro c hc;have:=List.all_eq_true.1 h o ho;rw [hc] at this
 cases this
theorem zck {P:Program}{ops:List Oper}{Q:Exit->Act->World->Prop}(l n:Nat)(hd:Vt ops=true)(hQ:¬LetsOut Q){i:Nat}{K K':Act->World->Prop}(hK:∀a w,K a w->K' a w){a:Act}{w:World}
 (h:wpOp P ops.toArray Q i K a w):wpOpIn (Fence.wide.inRound l) n P ops.toArray Q i K' a w:=by
 unfold wpOp at h;unfold wpOpIn
 cases ho:ops.toArray[i]? with
 |none=>rw [ho] at h;exact hK _ _ h
 |some o=>
  rw [ho] at h
  have hm:o∈ops:=by
   rw [List.getElem?_toArray] at ho;exact List.mem_of_getElem? ho
  simp only at h⊢
  split
  ·rename_i hw
   rw [if_pos hw] at h
   rcases h with h|⟨_,h⟩
   ·exact Oper.wpIn_mono hK (zex l n (zaL hd hm) h)
   ·exact absurd h hQ
  ·rename_i hw
   rw [if_neg hw] at h;exact⟨λ_ _=>trivial,hK _ _ h⟩
theorem Za {P:Program}{md:Region.Mode}{ops:List Oper}{Q:Exit->Act->World->Prop}(l n:Nat)(hd:Vt ops=true)(hQ:¬LetsOut Q):∀(fuel:Nat)(listed:Array Bool)(a:Act)(w:World),
 wpAny P md ops.toArray Q fuel listed a w->wpAnyIn (Fence.wide.inRound l) n P md ops.toArray Q fuel listed a w
 |0,_,_,_,h=>h
 |fuel+1,_,_,_,h=>⟨h.1,λi hi=>zck l n hd hQ (λa' w' h'=>Za l n hd hQ fuel _ a' w' h') (h.2 i hi)⟩
theorem vP {P:Program}{id:Nat}{Q:Exit->Act->World->Prop}{a:Act}{w:World}{ops:List Oper}{l k:Nat}(n:Nat)(hd:Vt ops=true)(hQ:¬LetsOut Q)(hm:P.follows .mixedOrders=true)(hB:Region.lexTailB .any ops.toArray n=true)
 (h:wpStill P ops.toArray {w with drawn:=w.drawn+1} (λa'=>wpList P ops.toArray Q (ops.drop n) a' {w with drawn:=w.drawn+1}) (ops.take n) a):(Code.region id ops.toArray true).wpIn (Fence.wide.inRound l) k P Q a w:=by
 simp only [Region.lexTailB,Bool.and_eq_true,decide_eq_true_eq] at hB;obtain⟨⟨⟨⟨hsel,hn⟩,hs⟩,hc⟩,hlex⟩:=hB;have hn':n<ops.length:=by simpa using hn
 have htl:(ops.take n).length=n:=by simp;omega
 have hdl:(ops.drop n).length=ops.toArray.size - n:=by simp
 have inv0:HeadInv .any ops.toArray n (Array.replicate ops.toArray.size false):=
  ⟨by simp,λj oj _ hl=>(by rw [getD_replicate_false] at hl;cases hl),λt _ ht=>getD_in (by simpa using ht) (getD_replicate_false _ _)⟩
 have H:=wpAnyL_lex (md:=.any) (g:=ops.toArray.size - n) hsel hs hc hn (ops.take n) 0 _ a (λj hj=>by
  have hj':j<n:=by rw [htl] at hj;exact hj
  simp [hj']) (by simpa using htl) inv0 (by rw [htl];exact hlex) h
 refine wpIn_region_any hm (Za l k hd hQ _ _ _ _ ?_)
 have:=wpAny_of_head (Q':=Q) (g:=ops.toArray.size - n) (λlisted a' hL=>by
  have:=wpAny_of_seq (md:=.any) (Q':=Q) (ops.drop n) n listed a' {w with drawn:=w.drawn+1} (λj=>by simp [List.getElem?_drop]) (by rw [hdl];exact hL.1) hL.2
  rwa [hdl] at this) _ _ _ H
 rw [htl,show n+(ops.toArray.size - n)=ops.toArray.size by omega] at this;exact this
variable {P:Program}{ops:Array Oper}{S:World->Prop}{Q:Exit->Act->World->Prop}
def jf(Q:Exit->Act->World->Prop):Exit->Act->World->Prop
 | .normal,a,w=>Q .normal a w
 |_,_,_=>False
theorem jf.imp {Q:Exit->Act->World->Prop} :∀(e:Exit)(a:Act)(w:World),jf Q e a w->Q e a w:=λe a w h=>by
 cases e<;>first|exact h|exact h.elim
def ZO(ops:Array Oper)(listed:Array Bool):Prop:=∀j oj,ops[j]?=some oj->listed.getD j false=true->∀e∈oj.after,Region.binds .any e=true->listed.getD e.on false=true
theorem ZO.set {listed:Array Bool}{i:Nat}(h:ZO ops listed)(hi:i∈Region.ready .any ops listed):ZO ops (listed.setIfInBounds i true):=by
 intro j oj hj hl e he hb
 by_cases hji:i=j
 ·subst hji
  obtain⟨_,o,ho,hall⟩:=mem_ready.1 hi;rw [hj] at ho;cases ho
  exact getD_set_true (hall e he hb)
 ·exact getD_set_true (h j oj hj (by rwa [getD_set_ne false hji] at hl) e he hb)
def zky(ops:Array Oper)(f:Nat):List Nat:=
 (List.range ops.size).reverse.foldl (λm k=>if m.contains k then m++((ops[k]?.map λo=>(o.after.toList.filter (Region.binds .any)).map (·.on)).getD [])else m) [f]
theorem zgl {f:Nat}{listed:Array Bool}(hc:ZO ops listed)(hf:listed.getD f false=true):∀i∈zky ops f,listed.getD i false=true:=by
 unfold zky
 generalize(List.range ops.size).reverse=l
 suffices H:∀(l m:List Nat),(∀i∈m,listed.getD i false=true)->∀i∈l.foldl (λm k=>if m.contains k then m++((ops[k]?.map λo=>(o.after.toList.filter (Region.binds .any)).map (·.on)).getD [])else m) m,listed.getD i false=true by
  exact H l [f] (by simpa using hf)
 intro l
 induction l with
 |nil=>intro m h;simpa using h
 |cons k l ih=>
  intro m h;rw [List.foldl_cons];refine ih _ ?_
  split
  ·rename_i hk
   intro i hi
   rcases List.mem_append.1 hi with hi|hi
   ·exact h i hi
   ·cases ho:ops[k]? with
    |none=>rw [ho] at hi;simp at hi
    |some o=>
     rw [ho] at hi;simp only [Option.map_some,Option.getD_some,List.mem_map,List.mem_filter] at hi;obtain⟨e,⟨he,hb⟩,rfl⟩:=hi;exact hc k o ho (h k (by simpa using hk)) e (by simpa using he) hb
  ·exact h
def ZV(brk:Option Nat)(listed:Array Bool):Prop:=∀f,brk=some f->listed.getD f true=false
def yu(P:Program)(ops:Array Oper)(Q:Exit->Act->World->Prop)(S:World->Prop)(brk:Option Nat):Nat->Array Bool->Act->World->Prop
 |0,listed,a,w=>Region.ready .any ops listed=[] /\Q .normal a w
 |fuel+1,listed,a,w=>
  (Region.ready .any ops listed=[] ->Q .normal a w)/\
  ∀i∈Region.ready .any ops listed,wpOp P ops Q i (λa' w'=>(ZV brk (listed.setIfInBounds i true)->S w')/\yu P ops Q S brk fuel (listed.setIfInBounds i true) a' w') a w
theorem qm {brk:Option Nat} :∀(fuel:Nat)(listed:Array Bool)(a:Act)(w:World),yu P ops Q S brk fuel listed a w->wpAny P .any ops Q fuel listed a w
 |0,_,_,_,h=>h
 |fuel+1,_,_,_,h=>⟨h.1,λi hi=>wpOp_mono (λa' w' h'=>qm fuel _ a' w' h'.2) (h.2 i hi)⟩
theorem Zb {brk:Option Nat}{i:Nat}{oi:Oper}{v:Value}(hi:ops[i]?=some oi)(hsel:∀(j:Nat)(o:Oper) cs b,ops[j]?=some o->o.op≠ .select cs b)
 (hQ:∀c a w,Q (.panic c) (a.put oi.dst v) w->Q (.panic c) a w) (hb:∀f,brk=some f->i∈zky ops f/\i≠f):
 ∀(fuel:Nat)(listed:Array Bool)(a:Act)(w:World),ZO ops listed->ZV brk listed->
  (∀j oj,ops[j]?=some oj->j≠i->listed.getD j true=false->(∀e∈oj.after,Region.binds .any e=true->e.on≠i)->oi.apart ops oj=true)->
  i∈Region.ready .any ops listed->YieldsIf P ops S oi v a->S w->
  yu P ops Q S brk fuel (listed.setIfInBounds i true) (a.put oi.dst v) w->yu P ops Q S brk (fuel+1) listed a w:=by
 intro fuel
 induction fuel with
 |zero=>
  intro listed a w _ _ _ hr hy hS H;refine⟨λh=>(by rw [h] at hr;cases hr),λj hj=>?_⟩
  by_cases hji:j=i
  ·subst hji;exact hy.wpOp hi hS ⟨λ_=>hS,H⟩
  ·have:=ready_mono hj hji
   rw [H.1] at this
   cases this
 |succ fuel ih=>
  intro listed a w hcl has hfree hr hy hS H;refine⟨λh=>(by rw [h] at hr;cases hr),λj hj=>?_⟩
  by_cases hji:j=i
  ·subst hji;exact hy.wpOp hi hS ⟨λ_=>hS,H⟩
  ·have h1:=H.2 j (ready_mono hj hji)
   obtain⟨hjun,oj,hoj,hall⟩:=mem_ready.1 hj;have hi0:=(mem_ready.1 hr).1
   have hif:listed.getD i false=false:=by
    rcases Nat.lt_or_ge i listed.size with h'|h'
    ·simp [h'] at hi0⊢;exact hi0
    ·simp [Array.getElem?_eq_none h']
   have hnot:∀e∈oj.after,Region.binds .any e=true->e.on≠i:=λe he hb heq=>by
    have h1:=hall e he hb;rw [heq,hif] at h1
    cases h1
   have hjb:∀f,brk=some f->j≠f:=λf hf e=>by
    subst e;have hc':=hcl.set hj
    have hjl:(listed.setIfInBounds j true).getD j false=true:=by
     have:j<listed.size:=by
      rcases Nat.lt_or_ge j listed.size with h'|h'
      ·exact h'
      ·simp [Array.getElem?_eq_none h'] at hjun
     simp [this]
    have:=zgl hc' hjl i (hb j hf).1;rw [getD_set_ne false hji,hif] at this
    cases this
   have has':ZV brk (listed.setIfInBounds j true):=λf hf=>by rw [getD_set_ne true (hjb f hf)];exact has f hf
   have h2:=wpOp_putIf hoj (hfree j oj hoj hji hjun hnot) (λcs b=>hsel i oi cs b hi) (λcs b=>hsel j oj cs b hoj) hQ hy h1
   have hfree':∀k ok,ops[k]?=some ok->k≠i->(listed.setIfInBounds j true).getD k true=false->
    (∀e∈ok.after,Region.binds .any e=true->e.on≠i)->oi.apart ops ok=true:=λk ok hk hki hun hno=>by
    refine hfree k ok hk hki ?_ hno
    by_cases hjk:j=k
    ·subst hjk;exact hjun
    ·rw [getD_set_ne true hjk] at hun;exact hun
   have hasi:ZV brk ((listed.setIfInBounds i true).setIfInBounds j true):=λf hf=>by
    rw [Array.setIfInBounds_comm _ _ (Ne.symm hji),getD_set_ne true (Ne.symm (hb f hf).2.symm)];exact has' f hf
   refine wpOp_mono (λa' w' h3=>⟨λ_=>h3.2.1 hasi,ih (listed.setIfInBounds j true) a' w' (hcl.set hj) has' hfree' (ready_mono hr (Ne.symm hji)) h3.1 (h3.2.1 hasi) ?_⟩) h2;rw [Array.setIfInBounds_comm _ _ hji];exact h3.2.2
def YF(ops:Array Oper)(brk:Option Nat):List (Nat×Bool)->Array Bool->Bool
 | [],listed=>(Region.ready .any ops listed).isEmpty
 |(i,true)::r,listed=>(match brk with|none=>true|some f=> !listed.getD f true &&(zky ops f).contains i && i !=f)&&(Region.ready .any ops listed).contains i && Region.free .any ops listed i && YF ops brk r (listed.setIfInBounds i true)
 |(i,false)::r,listed=>decide (Region.ready .any ops listed=[i])&& YF ops brk r (listed.setIfInBounds i true)
def vS(P:Program)(ops:Array Oper)(S:World->Prop)(brk:Option Nat)(Q:Exit->Act->World->Prop):List (Nat×Bool)->Act->World->Prop
 | [],a,w=>Q .normal a w
 |(i,true)::r,a,w=>∃o v,ops[i]?=some o/\YieldsIf P ops S o v a/\vS P ops S brk Q r (a.put o.dst v) w
 |(i,false)::r,a,w=>wpOp P ops (λ_ _ _=>False) i (λa' w'=>(brk≠some i->S w')/\vS P ops S brk Q r a' w') a w
theorem vT {i:Nat}{K:Act->World->Prop}{a:Act}{w:World}(h:wpOp P ops (λ_ _ _=>False) i K a w):wpOp P ops Q i K a w:=by
 unfold wpOp at*
 cases ho:ops[i]? with
 |none=>rw [ho] at h;exact h
 |some o=>
  rw [ho] at h;simp only at h⊢
  split
  ·rename_i hw
   rw [if_pos hw] at h
   rcases h with h|⟨_,h⟩
   ·refine .inl ?_
    unfold Oper.wp at*
    generalize(execOp a.eval o).run P w=r at*
    cases r with
    |ok n w'=>
     cases n<;>simp only [Oper.upon] at h⊢<;>
      first
       |exact h
       |exact Calls.mono h (λe w'' he=>by cases e<;>first|exact he|exact he.elim|(obtain⟨_,_,h0⟩:=he;exact h0.elim))
    |halt x w'=>cases x<;>simp only [Oper.upon] at h⊢<;>first|exact h|exact h.elim
   ·obtain⟨_,_,h⟩:=h;exact h.elim
  ·rename_i hw
   rw [if_neg hw] at h;exact h
theorem x7 {brk:Option Nat}(hsel:Region.noSelect ops=true):∀(l:List (Nat×Bool)) (listed:Array Bool) (a:Act) (w:World),YF ops brk l listed=true->ZO ops listed->(ZV brk listed->S w)->
 vS P ops S brk Q l a w->yu P ops (jf Q) S brk l.length listed a w
 | [],listed,a,w,hB,hc,hS,h=>⟨by simpa [YF] using hB,h⟩
 |(i,true)::l,listed,a,w,hB,hc,hS,h=>by
  simp only [YF,Bool.and_eq_true] at hB;obtain⟨⟨⟨hk,hr⟩,hf⟩,hB⟩:=hB;have hr':i∈Region.ready .any ops listed:=by simpa using hr
  have has:ZV brk listed:=λf hf=>by subst hf;simp at hk;simpa using hk.1.1
  obtain⟨o,v,ho,hy,h⟩:=h
  refine Zb ho (Region.noSelect_spec hsel) (λ_ _ _ h=>h) (λf hf=>(by subst hf;simp at hk;exact⟨hk.1.2,hk.2⟩)) _ listed a w hc has (Region.free_spec ho hf) hr' hy (hS has)
   (x7 hsel l _ _ w hB (hc.set hr') (λ_=>hS has) h)
 |(i,false)::l,listed,a,w,hB,hc,hS,h=>by
  simp only [YF,Bool.and_eq_true,decide_eq_true_eq] at hB;obtain⟨hr,hB⟩:=hB;refine⟨λh0=>(by rw [h0] at hr;cases hr),λj hj=>?_⟩;have hji:j=i:=by rw [hr] at hj;simpa using hj
  subst hji
  have hlt:j<listed.size:=by
   rcases Nat.lt_or_ge j listed.size with h'|h'
   ·exact h'
   ·have:=(mem_ready.1 hj).1;simp [Array.getElem?_eq_none h'] at this
  refine wpOp_mono (λa' w' ⟨h1,h2⟩=>?_) (vT h);have hS':ZV brk (listed.setIfInBounds j true)->S w':=λhas=>h1 (λe=>by have:=has j e;simp [hlt] at this)
  exact⟨hS',x7 hsel l _ a' w' hB (hc.set hj) hS' h2⟩
theorem qx(l:List Oper):ZO l.toArray (Array.replicate l.length false):=λj oj hj hl=>by
 rw [getD_replicate_false] at hl;cases hl
theorem zd {id:Nat}{a:Act}{w:World}{l:List Oper}(sch:List (Nat×Bool))(brk:Option Nat)(S:World->Prop)(hm:P.follows .mixedOrders=true)
 (hB:(Region.noSelect l.toArray && decide (sch.length=l.length)&& YF l.toArray brk sch (Array.replicate l.length false))=true) (hS:S w.drew)
 (h:vS P l.toArray S brk Q sch a w.drew):(Code.region id l.toArray true).wp P Q a w:=by
 simp only [Bool.and_eq_true,decide_eq_true_eq] at hB;obtain⟨⟨h1,h2⟩,h3⟩:=hB;have H:=x7 h1 sch _ a w.drew h3 (qx l) (λ_=>hS) h;rw [h2] at H;exact wp_mono (wp_region_any (Q:=jf Q) hm (by simpa using qm _ _ _ _ H)) (λe a w h=>jf.imp e a w h)
theorem jJ {id k r:Nat}{a:Act}{w:World}{l:List Oper}(sch:List (Nat×Bool))(brk:Option Nat)(S:World->Prop)(hm:P.follows .mixedOrders=true)
 (hB:(Vt l && Region.noSelect l.toArray && decide (sch.length=l.length)&& YF l.toArray brk sch (Array.replicate l.length false))=true) (hS:S w.drew)
 (h:vS P l.toArray S brk Q sch a w.drew):(Code.region id l.toArray true).wpIn (Fence.wide.inRound r) k P Q a w:=by
 simp only [Bool.and_eq_true,decide_eq_true_eq] at hB;obtain⟨⟨⟨h0,h1⟩,h2⟩,h3⟩:=hB;have H:=x7 h1 sch _ a w.drew h3 (qx l) (λ_=>hS) h;rw [h2] at H;refine wpIn_mono (wpIn_region_any (Q:=jf Q) hm (Za r k h0 (λ⟨_,_,h⟩=>h) _ _ _ _ (by simpa using qm _ _ _ _ H))) (λe a w h=>jf.imp e a w h)
variable {brk:Option Nat}
theorem ze {a:Act}{w:World}(h:Q .normal a w):vS P ops S brk Q [] a w:=h
theorem za {i:Nat}{r:List (Nat×Bool)}{o:Oper}{a:Act}{w:World}{v:Value}(ho:ops[i]?=some o)(hg:Region.wanted o (yielded ops a.tmps)=true)
 (h1:∀w',S w'->(execOp a.eval o).run P w'=.ok (.value v) w') (h2:∀K:Act->Prop,(∀a',vS P ops S brk Q r a' w->K a')->K (a.put o.dst v)):vS P ops S brk Q ((i,true)::r) a w:=
 ⟨o,v,ho,.inl ⟨hg,h1⟩,h2 _ (λ_ h=>h)⟩
theorem je {i:Nat}{r:List (Nat×Bool)}{o:Oper}{a:Act}{w:World}(ho:ops[i]?=some o)(hg:Region.wanted o (yielded ops a.tmps)=false)
 (h2:∀K:Act->Prop,(∀a',vS P ops S brk Q r a' w->K a')->K (a.put o.dst undef)):vS P ops S brk Q ((i,true)::r) a w:=
 ⟨o,undef,ho,.inr ⟨hg,rfl⟩,h2 _ (λ_ h=>h)⟩
theorem zc {i:Nat}{r:List (Nat×Bool)}{o:Oper}{a:Act}{w:World}(ho:ops[i]?=some o)
 (h:∀K:Act->World->Prop,Shut (∀a' w',(brk≠some i->S w')->vS P ops S brk Q r a' w'->K a' w')->wpList P ops (Exit.then K (λ_ _ _=>False)) [o] a w):vS P ops S brk Q ((i,false)::r) a w:=by
 have H:=h (λa' w'=>(brk≠some i->S w')/\vS P ops S brk Q r a' w') (λa' w' h1 h2=>⟨h1,h2⟩)
 show wpOp P ops _ i _ a w
 unfold wpOp;rw [ho];unfold wpList at H;simp only
 split
 ·rename_i hw
  rw [if_pos hw] at H
  rcases H with H|⟨_,_,_,H⟩
  ·refine .inl ?_
   unfold Oper.wp at*
   generalize(execOp a.eval o).run P w=x at*
   cases x with
   |ok n w'=>
    cases n<;>simp only [Oper.upon] at H⊢<;>
     first
      |exact H
      |exact Calls.mono H (λe w'' he=>by cases e<;>first|exact he|exact he.elim|(obtain⟨_,_,h0⟩:=he;exact h0.elim))
      |exact Rows.mono H (λ_ _ he=>he)
   |halt x w'=>cases x<;>simp only [Oper.upon] at H⊢<;>first|exact H|exact H.elim
  ·exact H.elim
 ·rename_i hw
  rw [if_neg hw] at H;exact H
end
section
open Go Go.RowKit Go.Shelf Go.Extern.Stop Go.Stop Go.Extern
attribute [local go_sem] Oper.semAt_some zv zm
theorem XZ(v:Value)(hv:∃a n c,v=.slice a n c)(w:World):Calls prog 133 #[v] w λe w'=>
 e=.returned (.func (.func 174) #[] #[.pointer (some ⟨w.heap.size,0,none⟩)])/\w'=w.alloc (.cells #[v] 42):=by
 obtain⟨a,n,c,rfl⟩:=hv
 go_enter func133,ntmps133
 go_wp2;go_ret
 exact⟨rfl,rfl⟩
theorem xG(l:List zy)(k:Nat)(x:zy)(h:l[k]?=some x)(j:Nat)(hj:j<3):(l.flatMap zh)[k*3+j]?=(zh x)[j]?:=by
 induction l generalizing k with
 |nil=>simp at h
 |cons y l ih=>
  cases k with
  |zero=>
   simp at h;subst h
   rw [List.flatMap_cons,Nat.zero_mul,Nat.zero_add,U8 (by simp [zh];omega)]
  |succ k=>
   simp at h
   have:=ih k h;rw [List.flatMap_cons,U6 (by simp [zh];omega)];rw [← this]
   congr 1
   simp [zh];omega
theorem Vu(cb:Nat)(v:Value)(l:List zy)(hlen:l.length<=1073741824):
 XG Fence.wide 2 prog 174 #[.pointer (some ⟨cb,0,none⟩)] (λx:zy=> #[vo x])
  (λ(k:Nat) x=>l[k]?=some x) (λk _=>k+1) (λk=>k=l.length)
  (λ_ W=>Blk W cb #[v] 42/\Src W v 3 l.length (l.flatMap zh)) 0:=by
 intro lp J Jx W hJ hJx hRd hY h0;obtain⟨r0,r1⟩:=hRd _ _ _ h0;have e0:=r0.cell;have hF:Fence.wide.fn 174:=trivial;have hro:Fence.wide.round=none:=rfl
 rcases r1.2 with⟨rfl,hn⟩|⟨b,off,cap,rfl,hc, -⟩
 ·obtain rfl:l=[]:=N9 hn
  clear r0 r1;refine callsIn_of_wp func174 rfl hF ?_ hro;simp only [ntmps174,R8,Nat.reduceAdd,Nat.reduceSub]
  gi_wp2
  gi_loopw [7] (λp wr=>p=.int .i64 0/\wr=W) (λp _=>0)
  case atStart=>exact⟨rfl,rfl⟩
  case round=>
   obtain⟨rfl,rfl⟩:=hrel
   gi_wp2
   go_end0
   exact⟨⟨_,rfl⟩,.inl ⟨0,_,rfl,h0⟩⟩
 ·clear r0 r1
  refine callsIn_of_wp func174 rfl hF ?_ hro;simp only [ntmps174,R8,Nat.reduceAdd,Nat.reduceSub]
  gi_wp2
  gi_loopw [7] (λp wr=>∃(k:Nat)(X:Nat->Prop),p=.int .i64 (k:Int)/\k<=l.length/\J k X wr) (λp _=>l.length - (intOf p).toNat)
  case atStart=>exact⟨0,_,rfl,Nat.zero_le _,h0⟩
  case round=>
   obtain⟨k,X,rfl,hk,hJs⟩:=hrel;clear e0
   by_cases hlt:k<l.length
   ·obtain⟨x,hx⟩:∃x,l[k]?=some x:=⟨_,N3 hlt⟩
    obtain⟨-,r1⟩:=hRd _ _ _ hJs
    rcases r1.2 with⟨h, -⟩|⟨b',off',cap',h, -,hr⟩
    ·cases h
    ·cases h
     have hcell:∀j,j<3->wr.cell? ⟨b,off+(k*3+j),none⟩=(zh x)[j]?:=λj hj=>by
      have h1:=xG l k x hx j hj
      cases hu:(zh x)[j]? with
      |none=>simp [zh] at hu;omega
      |some u=>exact hr _ u (h1.trans hu)
     have c0:wr.cell? ⟨b,off+k*3,none⟩=(zh x)[0]?:=hcell 0 (by omega);have c1:wr.cell? ⟨b,off+k*3+1,none⟩=(zh x)[1]?:=hcell 1 (by omega);have c2:wr.cell? ⟨b,off+k*3+2,none⟩=(zh x)[2]?:=hcell 2 (by omega);have hY':=hY k x _ _ (hJ.alloc (.cells (zh x).toArray 78) hJs) hx;obtain⟨⟨i,c⟩,d⟩:=x;simp only [zh] at c0 c1 c2 hY';simp only [List.getElem?_cons_zero,List.getElem?_cons_succ] at c0 c1 c2;clear hcell hr r1;obtain⟨fn,tmps,assign,body,hy,hR⟩:=hY';unfold vo at hy
     gi_wp2
     refine hR.mono ?_;rintro e W'(⟨rfl,hJ', -⟩|⟨rfl,hx'⟩)
     ·clear c0 c1 c2 hR hy
      gi_wp2
      go_roundw
      case rel=>exact⟨k+1,_,by go_num,by omega,hJ'⟩
      case measure=>simp [intOf];omega
     ·gi_wp2
      refine bodyPost_ret (results_none rfl _ _ _) rfl ?_;exact⟨⟨_,rfl⟩,.inr ⟨_,hx'⟩⟩
   ·obtain rfl:k=l.length:=by omega
    gi_wp2
    go_end0
    exact⟨⟨_,rfl⟩,.inl ⟨l.length,X,rfl,hJs⟩⟩
end
open Go Go.RowKit
variable {P:Program}
def qQ(ps:Array Tmp)(vs:Array Value)(t:Array Value):Array Value:=(ps.zip vs).foldl (λt (p,v)=>t.setIfInBounds p v) t
theorem zZ(p:Tmp)(v:Value)(t:Array Value):qQ #[p] #[v] t=t.setIfInBounds p v:=by simp [qQ]
theorem vB(p q:Tmp)(u v:Value)(t:Array Value):qQ #[p,q] #[u,v] t=(t.setIfInBounds p u).setIfInBounds q v:=by simp [qQ]
theorem yS {α σ:Type}{g:Operand}{ps:Array Tmp}{assign body:Code}{Q:Exit->Act->World->Prop}{a:Act}{w:World}
 {gf:Nat} {lb:Array Value} (hg:a.eval g=.func (.func gf) #[] lb) (eg:∀args w,(callFunc gf args).run P w=.ok (.enter gf args) w)
 {encs:α->Array Value} {nx:σ->α->Prop} {st:σ->α->σ} {fin:σ->Prop} {Rd:σ->World->Prop} {s0:σ} (hit:XG Fence.wide 2 P gf lb encs nx st fin Rd s0) (hps:∀x,(encs x).size=ps.size)
 (I:σ->(Nat->Prop)->World->Prop) (Ix:Code->(Nat->Prop)->World->Prop) (hI:XE I) (hIx:∀c,XE λ(_:Unit)=>Ix c) (hRd:∀s X W,I s X W->Rd s W)
 (hX:∀s X W,I s X W->w.heap.size<=W.heap.size/\∀k,X k->k<W.heap.size) (h0:I s0 (λ_=>False) w)
 (d:Tmp) (T:TypeId) (cells:α->Array Value)
 (hassign:∀(l:Nat)(x:α)(W:World)(K:Act->World->Prop),K {tmps:=(qQ ps (encs x) a.tmps).setIfInBounds d (.pointer (some ⟨W.heap.size,0,none⟩)),defers:=[] } (W.alloc (.cells (cells x) T))->
  assign.wpIn (Fence.wide.inRound l) 1 P (Exit.then K (λ_ _ _=>False)) {tmps:=qQ ps (encs x) a.tmps,defers:=[] } W)
 (hbody:∀(l:Nat)(s:σ)(x:α)(cb:Nat)(X X1:Nat->Prop)(W1 W:World),I s X1 W1->I s X W->nx s x->W1.heap.size<=cb->w.heap.size<=cb->¬X cb->Blk W cb (cells x) T->X l->(∃r,W.heap[l]?=some (.loop r))->
  body.wpIn (Fence.wide.inRound l) 1 P (zes I Ix (st s x) X W) {tmps:=(qQ ps (encs x) a.tmps).setIfInBounds d (.pointer (some ⟨cb,0,none⟩)),defers:=[] } W)
 (hdone:∀(D:Nat)(s:σ)(X:Nat->Prop)(W:World),w.heap.size<=D->X D->fin s->I s X W->W.heap[D]?=some (.deferred (some []))->Q .normal {a with defers:={target:=.collected D,args:=#[] } ::a.defers} W)
 (hstop:∀(D:Nat)(c:Code)(X:Nat->Prop)(W:World),w.heap.size<=D->X D->Ix c X W->W.heap[D]?=some (.deferred (some []))->c.wp P Q {a with defers:={target:=.collected D,args:=#[] } ::a.defers} W):
 (Code.rangeFunc g ps assign body).wp P Q a w:=by
 refine Vo hg eg hit hps I Ix hI hIx hRd h0
  (λs x a' X W=>∃cb X1 W1,a'={tmps:=(qQ ps (encs x) a.tmps).setIfInBounds d (.pointer (some ⟨cb,0,none⟩)),defers:=[] } /\I s X1 W1/\I s X W/\nx s x/\W1.heap.size<=cb/\w.heap.size<=cb/\¬X cb/\Blk W cb (cells x) T)
  ?ax ?assign ?body hdone hstop
 case ax=>
  rintro s x a' u X X' W W'⟨cb,X1,W1,ha,h1,h2,h3,h4,h5,h6,h7⟩ hm hx;exact⟨cb,X1,W1,ha,h1,hI _ _ _ _ _ h2 hm hx,h3,h4,h5,λh=>(hx cb h).elim h6 (λh'=>by have:=h7.lt;omega),h7.mod hm h6⟩
 case assign=>
  intro l s x X W K h hn hK;have hw:=hX _ _ _ h;have hnx:¬X W.heap.size:=λe=>by have:=hw.2 _ e;omega
  refine hassign l x W K (hK _ _ ⟨W.heap.size,X,W,rfl,h,?_,hn,N0 _,hw.1,hnx,Blk.new rfl⟩ (jB.of_mod (Mod.alloc (λ_=>False) _ _) (λ_ _ _ h=>h)));exact hI _ _ _ _ _ h (Mod.alloc _ _ _) (λk hk=>.inl hk)
 case body=>
  rintro l s x a' X W⟨cb,X1,W1,rfl,h1,h2,h3,h4,h5,h6,h7⟩ hXl hr;exact hbody l s x cb X X1 W1 W h1 h2 h3 h4 h5 h6 h7 hXl hr
theorem yT {α σ:Type}{g:Operand}{ps:Array Tmp}{assign body:Code}{Q:Exit->Act->World->Prop}{a:Act}{w:World}
 {gf:Nat} {lb:Array Value} (hg:a.eval g=.func (.func gf) #[] lb) (eg:∀args w,(callFunc gf args).run P w=.ok (.enter gf args) w)
 {encs:α->Array Value} {nx:σ->α->Prop} {st:σ->α->σ} {fin:σ->Prop} {Rd:σ->World->Prop} {s0:σ} (hit:XG Fence.wide 2 P gf lb encs nx st fin Rd s0) (hps:∀x,(encs x).size=ps.size)
 (I:σ->(Nat->Prop)->World->Prop) (Ix:Code->(Nat->Prop)->World->Prop) (hI:XE I) (hIx:∀c,XE λ(_:Unit)=>Ix c) (hRd:∀s X W,I s X W->Rd s W) (h0:I s0 (λ_=>False) w)
 (sets:α->List (Tmp×Value))
 (hassign:∀(l:Nat)(x:α)(W:World)(K:Act->World->Prop),K {tmps:=(sets x).foldl (λt p=>t.setIfInBounds p.1 p.2) (qQ ps (encs x) a.tmps),defers:=[] } W->
  assign.wpIn (Fence.wide.inRound l) 1 P (Exit.then K (λ_ _ _=>False)) {tmps:=qQ ps (encs x) a.tmps,defers:=[] } W)
 (hbody:∀(l:Nat)(s:σ)(x:α)(X:Nat->Prop)(W:World),I s X W->nx s x->X l->(∃r,W.heap[l]?=some (.loop r))->
  body.wpIn (Fence.wide.inRound l) 1 P (zes I Ix (st s x) X W) {tmps:=(sets x).foldl (λt p=>t.setIfInBounds p.1 p.2) (qQ ps (encs x) a.tmps),defers:=[] } W)
 (hdone:∀(D:Nat)(s:σ)(X:Nat->Prop)(W:World),w.heap.size<=D->X D->fin s->I s X W->W.heap[D]?=some (.deferred (some []))->Q .normal {a with defers:={target:=.collected D,args:=#[] } ::a.defers} W)
 (hstop:∀(D:Nat)(c:Code)(X:Nat->Prop)(W:World),w.heap.size<=D->X D->Ix c X W->W.heap[D]?=some (.deferred (some []))->c.wp P Q {a with defers:={target:=.collected D,args:=#[] } ::a.defers} W):
 (Code.rangeFunc g ps assign body).wp P Q a w:=
 zdA hg eg hit hps I Ix hI hIx hRd h0 (λx=> {tmps:=(sets x).foldl (λt p=>t.setIfInBounds p.1 p.2) (qQ ps (encs x) a.tmps),defers:=[] })
  (λl x W K hK=>hassign l x W K hK) (λl s x X W h hn hl hr=>hbody l s x X W h hn hl hr) hdone hstop
