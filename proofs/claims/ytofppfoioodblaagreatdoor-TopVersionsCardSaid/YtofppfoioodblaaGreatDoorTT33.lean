/- PARTS OF THE PROOF. -/
import Derived.Test.YtofppfoioodblaaGreatDoorTT03
import Derived.Test.YtofppfoioodblaaGreatDoorTT13
import Derived.Test.YtofppfoioodblaaGreatDoorTT31
import Derived.Test.YtofppfoioodblaaGreatDoorTT32
set_option maxRecDepth 8000
set_option maxHeartbeats 4000000
open Go.Proofs.Tryz
namespace Go.Proofs.YtofppfoioodblaaGreatDoor
section
open Go Go.RowKit
variable {P:Program}{ops:Array Oper}{Q:Exit->Act->World->Prop}{S:World->Prop}{brk:Option Nat}
def zdc(ops:Array Oper)(listed:Array Bool):Bool:=
 (List.range ops.size).all λj=> !listed.getD j false||((ops[j]?.map λo=>o.after.toList.all λe=> !Region.binds .any e||listed.getD e.on false).getD true)
theorem zbD {listed:Array Bool}(h:zdc ops listed=true):ZO ops listed:=by
 intro j oj hj hl e he hb;unfold zdc at h;rw [List.all_eq_true] at h;have h1:=h j (List.mem_range.2 (N5.1 hj).1);rw [hl,hj] at h1;simp only [Bool.not_true,Bool.false_or,Option.map_some,Option.getD_some,List.all_eq_true] at h1;have h2:=h1 e (by simpa using he);rw [hb] at h2
 simpa using h2
def okQ(ops:Array Oper)(brk:Option Nat)(listed:Array Bool)(i:Nat):Bool:=(match brk with|none=>true|some f=> !listed.getD f true &&(zky ops f).contains i && i !=f)&&(Region.ready .any ops listed).contains i && Region.free .any ops listed i
def Xd(ops:Array Oper)(brk:Option Nat):List (Nat×Bool)->Array Bool->Option (Array Bool)
 | [],listed=>some listed
 |(i,true)::r,listed=>if okQ ops brk listed i=true then Xd ops brk r (listed.setIfInBounds i true)else none
 |(i,false)::r,listed=>if(decide (Region.ready .any ops listed=[i])&& brk !=some i)=true then Xd ops brk r (listed.setIfInBounds i true)else none
theorem Z9(hsel:Region.noSelect ops=true){m:Nat}{last:Array Bool} :∀(l:List (Nat×Bool)) (listed:Array Bool) (a:Act) (w:World),Xd ops brk l listed=some last->ZO ops listed->(ZV brk listed->S w)->
 y9 P ops (λ_ a w=>(ZV brk last->S w)->yu P ops (jf Q) S brk m last a w) S brk l a w->yu P ops (jf Q) S brk (l.length+m) listed a w
 | [],listed,a,w,hB,hc,hS,h=>by
   simp only [Xd,Option.some.injEq] at hB;subst hB;unfold y9 at h;have h':=h hS
   rwa [show m=([]:List (Nat×Bool)).length+m by simp] at h'
 |(i,true)::l,listed,a,w,hB,hc,hS,h=>by
  simp only [Xd] at hB
  by_cases hk:okQ ops brk listed i=true
  ·rw [if_pos hk] at hB
   unfold okQ at hk;simp only [Bool.and_eq_true] at hk;obtain⟨⟨hk,hr⟩,hf⟩:=hk;have hr':i∈Region.ready .any ops listed:=by simpa using hr
   have has:ZV brk listed:=λf hf=>by subst hf;simp at hk;simpa using hk.1.1
   unfold y9 at h;obtain⟨o,v,ho,hy,h⟩:=h;rw [show((i,true)::l).length+m=(l.length+m)+1 by simp;omega]
   exact Zb ho (Region.noSelect_spec hsel) (λ_ _ _ h=>h) (λf hf=>(by subst hf;simp at hk;exact⟨hk.1.2,hk.2⟩)) _ listed a w hc has (Region.free_spec ho hf) hr' hy (hS has)
    (Z9 hsel l _ _ w hB (hc.set hr') (λ_=>hS has) h)
  ·rw [if_neg hk] at hB;cases hB
 |(i,false)::l,listed,a,w,hB,hc,hS,h=>by
  simp only [Xd] at hB
  by_cases hk:(decide (Region.ready .any ops listed=[i])&& brk !=some i)=true
  ·rw [if_pos hk] at hB
   simp only [Bool.and_eq_true,decide_eq_true_eq,bne_iff_ne,ne_eq] at hk;obtain⟨hr,hb⟩:=hk;unfold y9 at h;rw [show((i,false)::l).length+m=(l.length+m)+1 by simp;omega];refine⟨λh0=>(by rw [h0] at hr;cases hr),λj hj=>?_⟩;have hji:j=i:=by rw [hr] at hj;simpa using hj
   subst hji;refine wpOp_mono (λa' w' ⟨_,h2⟩=>?_) (vT h);obtain⟨hS',h3⟩:=h2 hb;exact⟨λ_=>hS',Z9 hsel l _ a' w' hB (hc.set hj) (λ_=>hS') h3⟩
  ·rw [if_neg hk] at hB;cases hB
theorem xg {id m:Nat}{a:Act}{w:World}{l:List Oper}(sch:List (Nat×Bool))(brk:Option Nat)(S:World->Prop)(last:Array Bool)(hm:P.follows .mixedOrders=true)
 (hB:(Region.noSelect l.toArray && decide (sch.length+m=l.length)&& decide (Xd l.toArray brk sch (Array.replicate l.length false)=some last))=true) (hS:S w.drew)
 (h:y9 P l.toArray (λ_ a w=>(ZV brk last->S w)->yu P l.toArray (jf Q) S brk m last a w) S brk sch a w.drew):(Code.region id l.toArray true).wp P Q a w:=by
 simp only [Bool.and_eq_true,decide_eq_true_eq] at hB;obtain⟨⟨h1,h2⟩,h3⟩:=hB;have H:=Z9 (m:=m) h1 sch _ a w.drew h3 (qx l) (λ_=>hS) h;rw [h2] at H;exact wp_mono (wp_region_any (Q:=jf Q) hm (by simpa using qm _ _ _ _ H)) (λe a w h=>jf.imp e a w h)
def YV(P:Program)(ops:Array Oper)(Q:Exit->Act->World->Prop)(S:World->Prop)(brk:Option Nat)(m:Nat)(listed:Array Bool)(a:Act)(w:World)(i:Nat):Prop:=
 wpOp P ops (λ_ _ _=>False) i (λa' w'=>(ZV brk (listed.setIfInBounds i true)->S w')/\yu P ops (jf Q) S brk m (listed.setIfInBounds i true) a' w') a w
theorem zbE {m:Nat}{listed:Array Bool}{a:Act}{w:World}(i:Nat)(is:List Nat)(hk:Region.ready .any ops listed=i::is)(h:YV P ops Q S brk m listed a w i)(h2:∀j∈is,YV P ops Q S brk m listed a w j):yu P ops (jf Q) S brk (m+1) listed a w:=
 ⟨λh0=>absurd (hk.symm.trans h0) (by simp),λj hj=>by
  rw [hk] at hj
  rcases List.mem_cons.1 hj with e|e
  ·rw [e];exact vT h
  ·exact vT (h2 j e)⟩
theorem zbF {m:Nat}{listed:Array Bool}{a:Act}{w:World} :∀j∈([]:List Nat),YV P ops Q S brk m listed a w j:=λj hj=>by cases hj
theorem Qr {m:Nat}{listed:Array Bool}{a:Act}{w:World}{i:Nat}{is:List Nat}(h:YV P ops Q S brk m listed a w i)(h2:∀j∈is,YV P ops Q S brk m listed a w j):∀j∈i::is,YV P ops Q S brk m listed a w j:=λj hj=>by
 rcases List.mem_cons.1 hj with e|e
 ·rw [e];exact h
 ·exact h2 j e
theorem zbG {m i:Nat}{o:Oper}{listed:Array Bool}{a:Act}{w:World}(ho:ops[i]?=some o)
 (h:∀K:Act->World->Prop,Shut (∀a' w',S w'->yu P ops (jf Q) S brk m (listed.setIfInBounds i true) a' w'->K a' w')->wpList P ops (Exit.then K (λ_ _ _=>False)) [o] a w):YV P ops Q S brk m listed a w i:=
 yF ho (λK hK=>h K (λa' w' h1 h2=>hK.out a' w' ⟨λ_=>h1,h2⟩))
theorem zbH {m i:Nat}{o:Oper}{listed:Array Bool}{a:Act}{w:World}(ho:ops[i]?=some o)(hl:i<listed.size)
 (h:∀K:Act->World->Prop,Shut (∀a' w',yu P ops (jf Q) zbC none m (listed.setIfInBounds i true) a' w'->K a' w')->wpList P ops (Exit.then K (λ_ _ _=>False)) [o] a w):YV P ops Q S (some i) m listed a w i:=
 yF ho (λK hK=>h K (λa' w' h1=>hK.out a' w' ⟨λhas=>absurd (has i rfl) (by simp [hl]),Z8 _ _ _ _ (by simp [hl]) h1⟩))
theorem qt {m:Nat}{listed:Array Bool}{a:Act}{w:World}(sch:List (Nat×Bool))(hB:(Region.noSelect ops && decide (sch.length=m)&& zdc ops listed && YU ops brk sch listed)=true)(hS:ZV brk listed->S w)
 (h:y9 P ops Q S brk sch a w):yu P ops (jf Q) S brk m listed a w:=by
 simp only [Bool.and_eq_true,decide_eq_true_eq] at hB;obtain⟨⟨⟨h1,h2⟩,h3⟩,h4⟩:=hB;subst h2;exact xW h1 sch S brk listed a w h4 (zbD h3) hS h
theorem Zj {K V:Type} [DecidableEq K](i j:K)(x:V):∀l:List (K×V),zD i (put j x l)=if i=j then some x else zD i l
 | []=>by unfold put zD;rfl
 |(a,b)::l=>by
  have ih:=Zj i j x l;unfold put
  by_cases h:j=a
  ·rw [if_pos h];subst h
   unfold zD
   by_cases hi:i=j<;>simp [hi]
  ·rw [if_neg h]
   unfold zD;rw [ih]
   by_cases hi:i=a
   ·subst hi;rw [if_pos rfl,if_pos rfl,if_neg (λe=>h e.symm)]
   ·rw [if_neg hi,if_neg hi]
def zai:List Nat->List (List Nat)
 | []=>[[]]
 |i::r=>(zai r).map (i::·)++zai r
def zfD(listed:Array Bool)(R rest:List Nat):Array Bool:=R.foldl (λL i=>if rest.contains i then L else L.setIfInBounds i true) listed
def zdd(ops:Array Oper)(listed:Array Bool)(R:List Nat):Bool:=
 (zai R).all λrest=>rest.isEmpty||(decide (Region.ready .any ops (zfD listed R rest)=rest)&& rest.all λi=>R.contains i && decide ((zfD listed R rest).setIfInBounds i true=zfD listed R (rest.filter (· !=i)))&&(zai R).contains (rest.filter (· !=i))&& decide ((rest.filter (· !=i)).length+1=rest.length))
theorem zde {m mb:Nat}{listed:Array Bool}{a:Act}{K:Type} [DecidableEq K] {enc:K->Value}(R:List Nat)(tbl:Nat->K×Value)(W0:World)(hok:zdd ops listed R=true)(htb:∀i∈R,∀j∈R,(tbl i).1=(tbl j).1->i=j)(hmb:W0.heap.size<=mb)
 (hrun:∀i∈R,∀W l,jc W mb enc l->wpOp P ops (λ_ _ _=>False) i (λa' w'=>a'=a/\(∃o,w'=W.putObj mb o)/\jc w' mb enc (put (tbl i).1 (tbl i).2 l)) a W)
 (hend:∀W l,jc W mb enc l->(∀i∈R,zD (tbl i).1 l=some (tbl i).2)->Below W0.heap.size W0 W->yu P ops (jf Q) zbC none m (zfD listed R []) a W):
 ∀(n:Nat)(rest:List Nat)(W:World)(l:List (K×Value)),rest.length=n->rest∈zai R->jc W mb enc l->(∀i∈R,i∉rest->zD (tbl i).1 l=some (tbl i).2)->Below W0.heap.size W0 W->yu P ops (jf Q) zbC none (n+m) (zfD listed R rest) a W:=by
 intro n
 induction n with
 |zero=>
  intro rest W l hl hs hM hR hb;obtain rfl:=N9 hl;rw [Nat.zero_add];exact hend W l hM (λi hi=>hR i hi (by simp)) hb
 |succ n ih=>
  intro rest W l hl hs hM hR hb;have h1:=hok;unfold zdd at h1;rw [List.all_eq_true] at h1;have h2:=h1 rest hs;rw [Bool.or_eq_true] at h2
  rcases h2 with h2|h2
  ·have:rest=[]:=by simpa using h2
   subst this;simp at hl
  ·simp only [Bool.and_eq_true,decide_eq_true_eq,List.all_eq_true] at h2
   obtain⟨h3,h4⟩:=h2;rw [show n+1+m=(n+m)+1 by omega];refine⟨λh0=>(by rw [h3] at h0;subst h0;simp at hl),λi hi=>?_⟩;rw [h3] at hi;obtain⟨⟨⟨h5,h6⟩,h7⟩,h8⟩:=h4 i hi;have hiR:i∈R:=by simpa using h5
   refine vT (wpOp_mono (λa' w' h=>?_) (hrun i hiR W l hM));obtain⟨rfl,⟨o,rfl⟩,hM'⟩:=h;refine⟨λ_=>trivial,?_⟩;rw [h6];refine ih _ _ _ (by omega) (by simpa using h7) hM' (λj hj hjn=>?_) (zN hb hmb o);have hlp:zD (tbl j).1 (put (tbl i).1 (tbl i).2 l)=if(tbl j).1=(tbl i).1 then some (tbl i).2 else zD (tbl j).1 l:=Zj _ _ _ l
   rw [hlp]
   by_cases hji:j=i
   ·subst hji;rw [if_pos rfl]
   ·rw [if_neg (λe=>hji (htb j hj i hiR e))]
    exact hR j hj (λh=>hjn (by simp [h,hji]))
theorem zki {m mb:Nat}{listed:Array Bool}{a:Act}{w:World}{K:Type} [DecidableEq K] {enc:K->Value}(R:List Nat)(tbl:Nat->K×Value)(hok:(zdd ops listed R && decide (R∈zai R)&& decide (zfD listed R R=listed))=true)(htb:∀i∈R,∀j∈R,(tbl i).1=(tbl j).1->i=j)(W0:World)(hmb:W0.heap.size<=mb)(hb0:Below W0.heap.size W0 w)
 (hM:jc w mb enc []) (hrun:∀i∈R,∀W l,jc W mb enc l->wpOp P ops (λ_ _ _=>False) i (λa' w'=>a'=a/\(∃o,w'=W.putObj mb o)/\jc w' mb enc (put (tbl i).1 (tbl i).2 l)) a W)
 (hend:∀W l,jc W mb enc l->(∀i∈R,zD (tbl i).1 l=some (tbl i).2)->Below W0.heap.size W0 W->yu P ops (jf Q) zbC none m (zfD listed R []) a W):yu P ops (jf Q) zbC none (R.length+m) listed a w:=by
 simp only [Bool.and_eq_true,decide_eq_true_eq] at hok;obtain⟨⟨h1,h2⟩,h3⟩:=hok;have:=zde R tbl W0 h1 htb hmb hrun hend R.length R w [] rfl h2 hM (λi hi hn=>absurd hi hn) hb0
 rwa [h3] at this
end
section
open Go Go.RowKit Go.Shelf Go.Extern.Stop Go.Stop Go.Extern
attribute [local go_sem] Oper.semAt_some zv zm
def zfE(k:Int×Int):Value:=.agg #[.int .i64 k.1,.int .i64 k.2]
theorem zkj(n:Nat)(b:Bool)(x y:Int)(w:World):(Instr.checkKey b (n+1+1) 383 (.agg #[.int .i64 x,.int .i64 y])).run prog w=.ok () w:=by
 simp [Instr.checkKey,go_sem,List.range',Tryz.sizeOf3,Tryz.isAgg3]
theorem zkS(n:Nat)(a b c d:Int)(w:World):(Op.equalIn (n+1+1) 383 (.agg #[.int .i64 a,.int .i64 b]) (.agg #[.int .i64 c,.int .i64 d])).run prog w=.ok (decide (a=c/\b=d)) w:=by
 simp [Op.equalIn,go_sem,List.range',Tryz.sizeOf3,Tryz.isAgg3]
 by_cases h1:a=c<;>by_cases h2:b=d<;>simp [h1,h2]
theorem zbI:x4 prog 383 zfE where
 eq:=λk k' w=>by
  obtain⟨a,b⟩:=k;obtain⟨c,d⟩:=k';have h:(Op.equal 383 (zfE (a,b)) (zfE (c,d))).run prog w=(Op.equalIn 10000 383 (.agg #[.int .i64 a,.int .i64 b]) (.agg #[.int .i64 c,.int .i64 d])).run prog w:=rfl;rw [h];rw [zkS 9998];simp [Prod.ext_iff]
 chk:=λb k w=>zkj 9998 b k.1 k.2 w
 bits:=λk=>by simp [zfE,Instr.sameBits]
 now:=⟨_,Tryz.underlying383,λk k'=>by left;rfl⟩
theorem zfF(w:World):Calls prog 243 #[] w λe w'=>∃(mb:Nat)(l:List ((Int×Int)×Value)),e=.returned (.map (some mb))/\Below w.heap.size w w'/\jc w' mb zfE l/\zD (1,1) l=some (.int .i64 1):=by
 have hmm:= @run_makeMap prog
 go_enter func243,ntmps243
 go_wp2_with fail
 refine xg [O 1,O 3,O 5,O 7,E 0] none zbC #[true,true,false,true,false,true,false,true,false,false,false] (m:=6) (by kernel_rfl) (by kernel_rfl) trivial ?_
 (repeat (refine zX (v:=?_) rfl rfl (λw' h=>?_) (λK k=>?_);rotate_left;obtain⟨f1,f2,f3,f4,f5,_⟩:=h;(try have e1:=f1.cell);(try have e2:=f2.cell);(try have e3:=f3.cell);(try have e4:=f4.cell);(try have e5:=f5.cell);go_simp;(try with_reducible rfl);go_simp;refine k _ ?_;clear k K))
 refine yB rfl (by simp) (λK hK=>?_);go_wp2;refine hK.out _ _ trivial ?_;clear hK K;refine yh (λ_=>?_);have hM:jc (w.alloc (.map #[] 0)).drew w.heap.size zfE []:=(jc.made w zfE).kept rfl;refine zki (m:=2) (mb:=w.heap.size) (enc:=zfE) [2,4,6,8] (λi=>if i=2 then((1,1),.int .i64 1)else if i=4 then((1,2),.int .i64 1)else if i=6 then((2,1),.int .i64 1)else((2,2),.int .i64 2)) (by kernel_rfl) (by decide) w (N0 _) (zo (zi (N2 _ _) _)) hM ?_ ?_
 ·intro i hi W l hM
  simp only [List.mem_cons,List.mem_nil_iff,or_false] at hi
  rcases hi with rfl|rfl|rfl|rfl
  ·
    refine yF rfl (λK hK=>?_);obtain⟨o,hu,hM⟩:=hM.update zbI Tryz.underlying381 ((1,1):Int×Int) (.int .i64 1);unfold zfE at hu;go_wp2;exact hK.out _ _ ⟨rfl,⟨_,rfl⟩,hM⟩
  ·
    refine yF rfl (λK hK=>?_);obtain⟨o,hu,hM⟩:=hM.update zbI Tryz.underlying381 ((1,2):Int×Int) (.int .i64 1);unfold zfE at hu;go_wp2;exact hK.out _ _ ⟨rfl,⟨_,rfl⟩,hM⟩
  ·
    refine yF rfl (λK hK=>?_);obtain⟨o,hu,hM⟩:=hM.update zbI Tryz.underlying381 ((2,1):Int×Int) (.int .i64 1);unfold zfE at hu;go_wp2;exact hK.out _ _ ⟨rfl,⟨_,rfl⟩,hM⟩
  ·
    refine yF rfl (λK hK=>?_);obtain⟨o,hu,hM⟩:=hM.update zbI Tryz.underlying381 ((2,2):Int×Int) (.int .i64 2);unfold zfE at hu;go_wp2;exact hK.out _ _ ⟨rfl,⟨_,rfl⟩,hM⟩
 ·intro W l hM hl hb
  refine qt [O 9,O 10] (by kernel_rfl) (λ_=>trivial) ?_
  (repeat (refine zX (v:=?_) rfl rfl (λw' h=>?_) (λK k=>?_);rotate_left;obtain⟨f1,f2,f3,f4,f5,_⟩:=h;(try have e1:=f1.cell);(try have e2:=f2.cell);(try have e3:=f3.cell);(try have e4:=f4.cell);(try have e5:=f5.cell);go_simp;(try with_reducible rfl);go_simp;refine k _ ?_;clear k K))
  refine yh ?_;go_wp2;go_ret
  exact⟨_,_,rfl,hb,hM,hl 2 (by simp)⟩
theorem Yy(w:World):Calls prog 194 #[.int .i64 1,.int .i64 1] w λe w'=>e=.returned (.tuple #[.int .i64 1,.int .i64 0])/\Below w.heap.size w w':=by
 go_enter func194,ntmps194
 go_wp2_with fail
 refine(zfF _).mono ?_;rintro e w1⟨mb,l,rfl,hb1,hM,hl⟩;have hlk:=hM.lookup_ok zbI Tryz.underlying381 (z:=.int .i64 0) (by kernel_rfl) (1,1);rw [hl] at hlk;simp only [Option.getD_some,Option.isSome_some] at hlk;unfold zfE at hlk;clear hM hl;go_wp2;go_ret2
 exact⟨rfl,hb1⟩
def Jj(kind src dst:Int)(d:List UInt8):Value:=.agg #[.int .i64 1,.int .i64 kind,.int .i64 src,.int .i64 dst,.int .u32 0,.int .u32 0,.int .u32 0,.int .u32 0,.string (bs d)]
def zk5(kind src dst:Int)(d:List UInt8):Array Value:=#[.int .i64 1,.int .i64 kind,.int .i64 src,.int .i64 dst,.int .u32 0,.int .u32 0,.int .u32 0,.int .u32 0,.string (bs d)]
theorem zkT(n:Nat)(k s d:Int)(b:ByteArray)(w:World):(Op.equalIn (n+1+1) 182 (.agg #[.int .i64 1,.int .i64 k,.int .i64 s,.int .i64 d,.int .u32 0,.int .u32 0,.int .u32 0,.int .u32 0,.string b]) (.agg #[.int .i64 1,.int .i64 k,.int .i64 s,.int .i64 d,.int .u32 0,.int .u32 0,.int .u32 0,.int .u32 0,.string b])).run prog w=.ok true w:=by
 simp [go_sem]
theorem zfG(k s d:Int)(b:List UInt8)(w:World):Calls prog 245 #[Jj k s d b,.int .i64 1] w λe w'=>e=.returned (Jj k s d b)/\Below w.heap.size w w':=by
 unfold Jj
 go_enter func245,ntmps245
 go_wp2;exact bodyPost_ret (v:=.agg #[.int .i64 1,.int .i64 k,.int .i64 s,.int .i64 d,.int .u32 0,.int .u32 0,.int .u32 0,.int .u32 0,.string (bs b)]) (by simp [results,Tryz.results245,go_sem]) rfl ⟨rfl,pbx⟩
theorem zkk(k s d:Int)(b:ByteArray)(w:World):(binOp .eql 182 (.agg #[.int .i64 1,.int .i64 k,.int .i64 s,.int .i64 d,.int .u32 0,.int .u32 0,.int .u32 0,.int .u32 0,.string b]) (.agg #[.int .i64 1,.int .i64 k,.int .i64 s,.int .i64 d,.int .u32 0,.int .u32 0,.int .u32 0,.int .u32 0,.string b])).run prog w=.ok (.bool true) w:=by
 have h:(Op.equalIn Op.maxDepth 182 (.agg #[.int .i64 1,.int .i64 k,.int .i64 s,.int .i64 d,.int .u32 0,.int .u32 0,.int .u32 0,.int .u32 0,.string b]) (.agg #[.int .i64 1,.int .i64 k,.int .i64 s,.int .i64 d,.int .u32 0,.int .u32 0,.int .u32 0,.int .u32 0,.string b])).run prog w=.ok true w:=zkT 9998 k s d b w;simp [binOp,Op.equal,h,Result.andThen,go_sem]
theorem Qs(k s d:Int)(b:List UInt8)(hk:0<=k/\k<=31)(hs:0<=s/\s<16)(hd:0<=d/\d<16)(w:World):Calls prog 196 #[Jj k s d b] w λe w'=>e=.returned (.bool (decide (b.length<=4096)))/\Below w.heap.size w w':=by
 have htu:=λW=>zfG k s d b W
 have hsz:=zJ b;have heq:=λW=>zkk k s d (bs b) W
 unfold Jj at htu⊢;have t1:decide (k<0)=false:=by simp;omega
 have t2:decide (31<k)=false:=by simp;omega
 have t3:decide (s<0)=false:=by simp;omega
 have t4:decide (16<=s)=false:=by simp;omega
 have t5:decide (d<0)=false:=by simp;omega
 have t6:decide (16<=d)=false:=by simp;omega
 have kB:=Blk.new (w:=w) (b:=w.heap.size) (cs:=#[.int .i64 1,.int .i64 k,.int .i64 s,.int .i64 d,.int .u32 0,.int .u32 0,.int .u32 0,.int .u32 0,.string (bs b)]) (t:=182) rfl;replace htu:=hid htu;replace heq:=hid heq;replace hsz:=hid hsz;clear hk hs hd
 by_cases hl:b.length<=4096
 ·have t7:decide ((4096:Int)<((bs b).size:Int))=false:=by rw [hsz.out];simp;omega
  rw [show decide (b.length<=4096)=true by simpa using hl];replace hl:=hid hl
  go_enter func196,ntmps196
  go_wp2_with fail
  refine(Yy _).mono ?_;rintro e w1⟨rfl,hb1⟩;have k1:=kB.call hb1;have c1:=k1.cell;have hb1w:Below w.heap.size w w1:=pbx;go_wp2_with fail
  clear c1;refine zd [O 0,O 1,O 2,O 3,E 4,O 5,O 6] none (λw'=>Blk w' w.heap.size #[.int .i64 1,.int .i64 k,.int .i64 s,.int .i64 d,.int .u32 0,.int .u32 0,.int .u32 0,.int .u32 0,.string (bs b)] 182/\True) (by kernel_rfl) (by kernel_rfl) ⟨k1.drew,trivial⟩ ?_
  (repeat (refine za (v:=?_) rfl rfl (λw' h=>?_) (λK k=>?_);rotate_left;obtain⟨f1,_⟩:=h;have e1:=f1.cell;go_simp;(try with_reducible rfl);go_simp;refine k _ ?_;clear k K))
  refine zc rfl (λK hK=>?_);go_wp2_with fail
  refine(htu.out _).mono ?_;rintro e w2⟨rfl,hb2⟩;have k2:=k1.drew.call hb2;have hb2w:=zg (zo hb1w) hb2;go_wp2;refine hK.out _ _ (λ_=>⟨k2,trivial⟩) ?_;clear hK K;have heq':=heq.out
  (repeat (refine za (v:=?_) rfl rfl (λw' h=>?_) (λK k=>?_);rotate_left;obtain⟨f1,_⟩:=h;have e1:=f1.cell;go_simp;(try with_reducible rfl);go_simp;refine k _ ?_;clear k K))
  refine ze ?_;go_wp2;go_ret
  exact⟨rfl,hb2w⟩
 ·have t7:decide ((4096:Int)<((bs b).size:Int))=true:=by rw [hsz.out];simp;omega
  rw [show decide (b.length<=4096)=false by simpa using hl];replace hl:=hid hl
  go_enter func196,ntmps196
  go_wp2_with fail
  refine(Yy _).mono ?_;rintro e w1⟨rfl,hb1⟩;have k1:=kB.call hb1;have c1:=k1.cell;have hb1w:Below w.heap.size w w1:=pbx;go_wp2;go_ret
  exact⟨rfl,hb1w⟩
end
section
open Go
theorem v7 {i:Int}(h0:0<=i)(h1:i<256):(yU i).toNat=i.toNat:=by
 unfold yU;rw [UInt8.toNat_ofNat'];omega
def qu(kind src dst:Int)(data:List UInt8):yQ:=⟨1,kind,src,dst,0,0,0,0,data⟩
theorem zbJ {kind src dst:Int}{data:List UInt8}(hk:0<=kind)(hk2:kind<=31)(hs:0<=src)(hs2:src<16)(hd:0<=dst)(hd2:dst<16)(hl:data.length<=4096):JO (qu kind src dst data)=true:=by
 unfold JO qu;simp
 omega
theorem zdf {kind src dst:Int}{data:List UInt8}(hk:0<=kind)(hk2:kind<=31)(hs:0<=src)(hs2:src<16)(hd:0<=dst)(hd2:dst<16)(hl:data.length<=4096):
 (qr (qu kind src dst data)).2=0/\zfx (qr (qu kind src dst data)).1=(qu kind src dst data,0):=by
 have hr:=zbJ hk hk2 hs hs2 hd hd2 hl
 have he:qr (qu kind src dst data)=(qB (72::1::yU kind::yU (src*16+dst)::0::0::0::0::0::0::0::0::0::0::0::0::(le4 data.length++data)),0):=by
  unfold qr;rw [if_neg (by rw [hr];simp)];have z:le4 0=[0,0,0,0]:=rfl;have w1:yU 1=1:=rfl
  show(qB ([72,yU 1,yU kind,yU (src*16+dst)] ++le4 0++le4 0++le4 0++(if(1:Int)=2 then le4 0 else [])++le4 data.length++data),(0:Int))=_
  rw [z,w1,if_neg (by decide)];simp
 rw [he];refine⟨rfl,?_⟩;unfold zfx;rw [VH];simp only;obtain⟨l4,h4⟩:∃l4,l4=le4 data.length:=⟨_,rfl⟩;have h4l:l4.length=4:=by rw [h4];rfl
 rw [← h4];have hg:yn l4=data.length:=by rw [h4,yW];omega
 have w0:yn [(0:UInt8),0,0,0]=0:=rfl;have k1:=v7 hk (by omega);have k2:=v7 (i:=src*16+dst) (by omega) (by omega);unfold zkR;rw [if_neg (by simp [vq]),if_neg (by simp [vq]),if_pos (by simp [vq])];rw [if_neg (by simp [h4l])]
 have e16:zW (72::1::yU kind::yU (src*16+dst)::0::0::0::0::0::0::0::0::0::0::0::0::(l4++data)) 16=data.length:=by
  unfold zW
  show yn ((l4++data).take 4)=_
  rw [List.take_append_of_le_length (by omega),List.take_of_length_le (by omega),hg]
 have e20:(72::1::yU kind::yU (src*16+dst)::0::0::0::0::0::0::0::0::0::0::0::0::(l4++data)).drop 20=data:=by
  show(l4++data).drop 4=data
  rw [List.drop_append_of_le_length (by omega),List.drop_of_length_le (by omega),List.nil_append]
 have b2:vq (72::1::yU kind::yU (src*16+dst)::0::0::0::0::0::0::0::0::0::0::0::0::(l4++data)) 2=kind.toNat:=k1;have b3:vq (72::1::yU kind::yU (src*16+dst)::0::0::0::0::0::0::0::0::0::0::0::0::(l4++data)) 3=(src*16+dst).toNat:=k2
 have w4:∀i,i=4∨i=8∨i=12->zW (72::1::yU kind::yU (src*16+dst)::0::0::0::0::0::0::0::0::0::0::0::0::(l4++data)) i=0:=by
  rintro i(rfl|rfl|rfl)<;>rfl
 rw [b2,b3,e16,e20,w4 4 (by simp),w4 8 (by simp),w4 12 (by simp)]
 have hf:(⟨1,(kind.toNat:Int),(((src*16+dst).toNat:Int)) / 16,((src*16+dst).toNat:Int)% 16,0,0,0,0,data⟩:yQ)=qu kind src dst data:=by
  unfold qu
  congr 1<;>omega
 rw [hf,hr,if_pos ⟨by simp [h4l],rfl⟩]
end
open Go Go.RowKit Go.Shelf Go.Extern.Stop Go.Stop Go.Extern
attribute [local go_sem] Oper.semAt_some zv zm
def zlv(l:List Nat):List Value:=l.map λ(n:Nat)=>.int .u32 n
theorem zee(s:List UInt8)(b:Nat)(ns:List Nat)(w:World)(hv:Src w (.slice (some ⟨b,0,none⟩) ns.length ns.length) 1 ns.length (zlv ns))(hn:ns.length<=10)(hs:s.length<=100000):
 Calls prog 240 #[.string (bs s),.slice (some ⟨b,0,none⟩) ns.length ns.length] w λe w'=>e=.returned (.string (bs (s++ns.flatMap le4)))/\Below w.heap.size w w':=by
 have hlen:∀k,((ns.take k).flatMap le4).length<=40:=λk=>by
  have h:∀l:List Nat,(l.flatMap le4).length=4*l.length:=λl=>by
   induction l with
   |nil=>rfl
   |cons a l ih=>rw [List.flatMap_cons,N1,ih,zY,List.length_cons];omega
  rw [h,N7];omega
 replace hlen:=hid hlen
 go_enter func240,ntmps240
 go_wp2
 go_loopw [0,9] (λp0 p9 wr=>∃k:Nat,p0=.string (bs (s++(ns.take k).flatMap le4))/\p9=.int .i64 (k:Nat)/\k<=ns.length/\Below w.heap.size w wr) (λ_ p9 _=>ns.length - (intOf p9).toNat)
 case atStart=>exact⟨0,by simp,rfl,by omega,N2 _ _⟩
 case round=>
  obtain⟨k,rfl,rfl,hk,hbk⟩:=hrel
  by_cases hkl:k<ns.length
  ·have t2:decide ((k:Int)<(ns.length:Int))=true:=by simpa using hkl
   have hwk:IntKind.i64.wrap ((k:Int)+1)=(k:Int)+1:=by rw [N8];omega
   obtain⟨x,hx⟩:∃x,ns[k]?=some x:=⟨_,N3 hkl⟩;have y0:(0:Int)<=(k:Int):=by omega
   have y1:(k:Int)<(ns.length:Int):=by omega
   have c0:wr.cell? ⟨b,k,none⟩=some (.int .u32 x):=by
    rcases(hv.below hbk).2 with⟨h, -⟩|⟨b',off,cap,h, -,hr⟩
    ·cases h
    ·cases h
     have:=hr k (.int .u32 x) (by unfold zlv;rw [List.getElem?_map,hx];rfl)
     rwa [Nat.zero_add] at this
   have hadd:=ZR (s++(ns.take k).flatMap le4) (le4 x) (by rw [N1,zY];have:=hlen.out k;omega)
   have htk:s++(ns.take (k+1)).flatMap le4=s++(ns.take k).flatMap le4++le4 x:=by
    rw [List.take_add_one,hx];simp [List.flatMap_append]
   rw [← htk] at hadd;replace htk:=hid htk;replace hx:=hid hx;replace hadd:=hid hadd;go_wp2_with fail
   refine(yI _ _).mono ?_;rintro e w1⟨rfl,hb1⟩;have hadd':=hadd.out w1;clear c0;go_wp2
   go_roundw
   case rel=>exact⟨k+1,rfl,by simp,by omega,zg hbk hb1⟩
   case measure=>simp [intOf];omega
  ·obtain rfl:k=ns.length:=by omega
   have t2:decide ((ns.length:Int)<(ns.length:Int))=false:=by simp
   rw [List.take_length] at*;go_wp2;go_ret
   exact⟨rfl,hbk⟩
theorem zja:∀s<16,∀d<16,bits .or .i64 ((s*16:Nat):Int) ((d:Nat):Int)=((s*16+d:Nat):Int):=by decide
theorem zlf(k x:UInt8)(W:World):(convert 49 9 (.slice (some ⟨W.heap.size,0,none⟩) 4 4)).run prog (W.alloc (.cells #[.int .u8 72,.int .u8 1,.int .u8 (k.toNat:Int),.int .u8 (x.toNat:Int)] 5))=.ok (.string (bs [72,1,k,x])) (W.alloc (.cells #[.int .u8 72,.int .u8 1,.int .u8 (k.toNat:Int),.int .u8 (x.toNat:Int)] 5)):=by
 have hk:=run_convert_bytes_arg (P:=prog) (W.alloc (.cells #[.int .u8 72,.int .u8 1,.int .u8 (k.toNat:Int),.int .u8 (x.toNat:Int)] 5)) 49 5 Tryz.underlying49 Tryz.underlying5 W.heap.size 0 4 4 [72,1,(k.toNat:Int),(x.toNat:Int)] rfl (λi hi=>by
  obtain rfl|rfl|rfl|rfl:i=0∨i=1∨i=2∨i=3:=by have:i<4:=hi;omega
  all_goals (rw [(Blk.new (w:=W) rfl).cell];rfl)) 9 Tryz.underlying9
 rw [hk];have h:strOfNums [72,1,(k.toNat:Int),(x.toNat:Int)]=bs [72,1,k,x]:=by unfold strOfNums bs;simp
 rw [h]
theorem zaj {k s d:Nat}{b:List UInt8}(hk:k<=31)(hs:s<16)(hd:d<16):qr (qu k s d b)=if b.length<=4096 then(qB (([72,1,yU k,yU (s*16+d:Nat)] ++ [0,0,0].flatMap le4)++ [b.length].flatMap le4++b),0)else([],20):=by
 by_cases hb:b.length<=4096
 ·rw [if_pos hb]
  have hr:=zbJ (kind:=(k:Int)) (src:=(s:Int)) (dst:=(d:Int)) (data:=b) (by omega) (by omega) (by omega) (by omega) (by omega) (by omega) hb;unfold qr;rw [if_neg (by rw [hr];simp)];rfl
 ·rw [if_neg hb]
  unfold qr;rw [if_pos (by unfold JO qu;simp;omega)]
theorem zlg(s:List UInt8)(hs:s.length<=100000)(b:Nat)(W:World)(hB:Blk W b #[.int .u32 0,.int .u32 0,.int .u32 0] 35):Calls prog 240 #[.string (bs s),.slice (some ⟨b,0,none⟩) 3 3] W λe w'=>e=.returned (.string (bs (s++ [0,0,0].flatMap le4)))/\Below W.heap.size W w':=
 zee s b [0,0,0] W (jM (n:=3) (size:=1) (cap:=3) hB rfl (N0 3)) (by simp) hs
theorem zlh(s:List UInt8)(hs:s.length<=100000)(n b:Nat)(W:World)(hB:Blk W b #[.int .u32 (n:Nat)] 35):Calls prog 240 #[.string (bs s),.slice (some ⟨b,0,none⟩) 1 1] W λe w'=>e=.returned (.string (bs (s++ [n].flatMap le4)))/\Below W.heap.size W w':=
 zee s b [n] W (jM (n:=1) (size:=1) (cap:=1) hB rfl (N0 1)) (by simp) hs
theorem zdg(k s d:Nat)(b:List UInt8)(hk:k<=31)(hs:s<16)(hd:d<16)(hb:b.length<=1000000)(w:World):Calls prog 190 #[Jj k s d b] w λe w'=>e=.returned (.tuple #[.string (bs (qr (qu k s d b)).1),.int .i64 (qr (qu k s d b)).2])/\Below w.heap.size w w':=by
 have hri:=λW=>Qs k s d b ⟨by omega,by omega⟩ ⟨by omega,by omega⟩ ⟨by omega,by omega⟩ W
 have hsz:=zJ b;rw [zaj hk hs hd];unfold Jj at hri⊢;have kB:=Blk.new (w:=w) (b:=w.heap.size) (cs:=#[.int .i64 1,.int .i64 k,.int .i64 s,.int .i64 d,.int .u32 0,.int .u32 0,.int .u32 0,.int .u32 0,.string (bs b)]) (t:=182) rfl;have hor:=zja s hs d hd;have ho2:IntKind.i64.wrap ((s:Int)*16)=((s*16:Nat):Int):=by rw [N8];omega
 have hbk:=v7 (i:=(k:Int)) (by omega) (by omega);have hbx:=v7 (i:=((s*16+d:Nat):Int)) (by omega) (by omega);have hwk:IntKind.u8.wrap (k:Int)=((yU k).toNat:Int):=by rw [IntKind.wrap_u8,hbk];omega
 have hwx:IntKind.u8.wrap ((s*16+d:Nat):Int)=((yU (s*16+d:Nat)).toNat:Int):=by rw [IntKind.wrap_u8,hbx];omega
 generalize yU (k:Int)=kb at*
 generalize yU ((s*16+d:Nat):Int)=xb at*
 generalize s*16+d=sd at*
 generalize s*16=s16 at*
 replace hsz:=hid hsz;replace hbk:=hid hbk;replace hbx:=hid hbx;clear hk hs hd
 by_cases hl:b.length<=4096
 ·rw [if_pos hl]
  simp only [show decide (b.length<=4096)=true by simpa using hl] at hri;replace hri:=hid hri;obtain⟨s1,hs1⟩:∃s1,[72,1,kb,xb]=s1:=⟨_,rfl⟩;obtain⟨s2,hs2⟩:∃s2,s1++ [0,0,0].flatMap le4=s2:=⟨_,rfl⟩;obtain⟨s3,hs3⟩:∃s3,s2++ [b.length].flatMap le4=s3:=⟨_,rfl⟩;have hlen3:s3.length=20:=by rw [← hs3,← hs2,← hs1];simp [le4]
  have hp1:=λb W hW=>zlg s1 (by rw [← hs1];simp) b W hW
  have hp2:=λc W hW=>zlh s2 (by rw [← hs2,← hs1];simp [le4]) b.length c W hW
  rw [hs2] at hp1;rw [hs3] at hp2;have hse:=λW=>zdU (s3++b) (by rw [N1];omega) W
  have had:=ZR s3 b (by omega);have hcv:=λW=>zlf kb xb W
  rw [hs1,hs2,hs3];simp only [hs1] at hcv;replace hs1:=hid hs1;replace hs2:=hid hs2;replace hs3:=hid hs3;replace hlen3:=hid hlen3;have hwl:(b.length:Int)% 4294967296=(b.length:Int):=by omega
  have hsz':=hsz.out;replace hl:=hid hl;replace hp1:=hid hp1;replace hp2:=hid hp2;replace hse:=hid hse;replace had:=hid had;replace hb:=hid hb
  go_enter func190,ntmps190
  go_wp2_with fail
  refine(hri.out _).mono ?_;rintro e w1⟨rfl,hb1⟩;have k1:=kB.call hb1;have c1:=k1.cell;have l1:=k1.lt;have hb1w:Below w.heap.size w w1:=pbx;have hcv':=hcv w1;go_wp2_with fail
  refine(hp1.out _ _ (Blk.new (by simp))).mono ?_;rintro e w2⟨rfl,hb2⟩;have hb2':Below w1.heap.size w1 w2:=pbx;have k2:=k1.call hb2';have c2:=k2.cell;have l2:=k2.lt;have hb2w:=zg hb1w hb2';clear c1 l1;go_wp2_with fail
  refine zd [O 0,O 1,O 2,O 3,O 4,O 7,O 8,E 5,E 6,O 9,E 10,O 11,O 12] none (λw'=>Blk w' w.heap.size #[.int .i64 1,.int .i64 k,.int .i64 s,.int .i64 d,.int .u32 0,.int .u32 0,.int .u32 0,.int .u32 0,.string (bs b)] 182/\True) (by kernel_rfl) (by kernel_rfl) ⟨k2.drew,trivial⟩ ?_;clear c2
  (repeat (refine za (v:=?_) rfl rfl (λw' h=>?_) (λK k=>?_);rotate_left;obtain⟨f1,_⟩:=h;have e1:=f1.cell;go_simp;(try with_reducible rfl);go_simp;refine k _ ?_;clear k K))
  refine zc rfl (λK hK=>?_);go_wp2;refine hK.out _ _ (λ_=>⟨(k2.drew.alloc _),trivial⟩) ?_;clear hK K;refine zc rfl (λK hK=>?_);go_wp2_with fail
  refine(hp2.out _ _ ((Blk.new rfl).drew)).mono ?_;rintro e w3⟨rfl,hb3⟩;have hb3':Below w2.heap.size w2 w3:=pbx;have k3:=k2.call hb3';have hb3w:=zg hb2w hb3';go_wp2;refine hK.out _ _ (λ_=>⟨k3,trivial⟩) ?_;clear hK K;have had':=had.out
  (repeat (refine za (v:=?_) rfl rfl (λw' h=>?_) (λK k=>?_);rotate_left;obtain⟨f1,_⟩:=h;have e1:=f1.cell;go_simp;(try with_reducible rfl);go_simp;refine k _ ?_;clear k K))
  refine zc rfl (λK hK=>?_);go_wp2_with fail
  refine(hse.out _).mono ?_;rintro e w4⟨rfl,hb4⟩;go_wp2;refine hK.out _ _ (λ_=>⟨k3.call hb4,trivial⟩) ?_;clear hK K
  (repeat (refine za (v:=?_) rfl rfl (λw' h=>?_) (λK k=>?_);rotate_left;obtain⟨f1,_⟩:=h;have e1:=f1.cell;go_simp;(try with_reducible rfl);go_simp;refine k _ ?_;clear k K))
  refine ze ?_;go_wp2;go_ret2
  exact⟨rfl,zg hb3w hb4⟩
 ·rw [if_neg hl]
  simp only [show decide (b.length<=4096)=false by simpa using hl] at hri;replace hri:=hid hri;replace hl:=hid hl;replace hb:=hid hb
  go_enter func190,ntmps190
  go_wp2_with fail
  refine(hri.out _).mono ?_;rintro e w1⟨rfl,hb1⟩;have k1:=kB.call hb1;have c1:=k1.cell;have l1:=k1.lt;have hb1w:Below w.heap.size w w1:=pbx;go_wp2;go_ret2
  exact⟨rfl,hb1w⟩
theorem zdh(s:ByteArray)(w:World):Calls prog 195 #[.string s] w λe w'=>
 e=.returned (.func (.func 244) #[] #[.pointer (some ⟨w.heap.size,0,none⟩)])/\w'=w.alloc (.cells #[.string s] 9):=by
 go_enter func195,ntmps195
 go_wp2;go_ret
 exact⟨rfl,rfl⟩
theorem zfH(d:List UInt8)(a n:Nat):(bs d).extract a (a+n)=bs ((d.drop a).take n):=by
 apply ByteArray.ext
 rw [ByteArray.data_extract];unfold bs;simp only [List.extract_toArray,List.extract_eq_take_drop,Nat.add_sub_cancel_left]
theorem zhw(cb:Nat)(l:List UInt8)(hlen:l.length<=1000000):
 XG Fence.wide 2 prog 244 #[.pointer (some ⟨cb,0,none⟩)] (λx:Nat×Nat=> #[.int .i64 (x.1:Nat),.int .u32 (x.2:Nat)])
  (λ(k:Nat) x=>k<l.length / 4/\x.1=k/\x.2=yn ((l.drop (4*k)).take 4)) (λk _=>k+1) (λk=>k=l.length / 4)
  (λ_ W=>Blk W cb #[.string (bs l)] 9) 0:=by
 intro lp J Jx W hJ hJx hRd hY h0;have r0:=hRd _ _ _ h0;have e0:=r0.cell;have hF:Fence.wide.fn 244:=trivial;have hro:Fence.wide.round=none:=rfl;have hsz:=zJ l;have hq:((l.length:Int)).tdiv 4=((l.length / 4:Nat):Int):=by rw [Int.tdiv_eq_ediv_of_nonneg (by omega)];omega
 obtain⟨m,hm⟩:∃m,l.length / 4=m:=⟨_,rfl⟩;rw [hm] at hq hY⊢;have hm4:4*m<=l.length:=by omega
 clear r0;replace hm:=hid hm;refine callsIn_of_wp func244 rfl hF ?_ hro;simp only [ntmps244,R8,Nat.reduceAdd,Nat.reduceSub]
 gi_wp2
 gi_loopw [9] (λp wr=>∃(k:Nat)(X:Nat->Prop),p=.int .i64 (k:Int)/\k<=m/\J k X wr) (λp _=>m - (intOf p).toNat)
 case atStart=>exact⟨0,_,rfl,Nat.zero_le _,h0⟩
 case round=>
  obtain⟨k,X,rfl,hk,hJs⟩:=hrel;clear e0
  by_cases hlt:k<m
  ·have t2:decide ((k:Int)<(m:Int))=true:=by simpa using hlt
   have e1:=(hRd _ _ _ hJs).cell;have hx:=zfH l (4*k) 4;have hget:=λW=>xQ ((l.drop (4*k)).take 4) (by rw [N7];omega) W
   have hl4:((l.drop (4*k)).take 4).length=4:=by rw [N7,U3];omega
   unfold zjZ at hget;simp only [hl4,if_pos] at hget;have w3:IntKind.i64.wrap ((k:Int)+1)=(k:Int)+1:=by rw [N8];omega
   have hnx:=λW' hJ'=>hY k (k,yn ((l.drop (4*k)).take 4)) X W' hJ' ⟨hlt,rfl,rfl⟩
   generalize(l.drop (4*k)).take 4=wd at*
   obtain⟨p,hp⟩:∃p,4*k=p:=⟨_,rfl⟩;obtain⟨q,hqe⟩:∃q,p+4=q:=⟨_,rfl⟩;have w0:4*(k:Int)=(p:Int):=by omega
   have w1:IntKind.i64.wrap (p:Int)=(p:Int):=by rw [N8];omega
   have w2:IntKind.i64.wrap ((p:Int)+4)=(q:Int):=by rw [N8];omega
   have y0:(0:Int)<=(p:Int):=by omega
   have y1:(p:Int)<=(q:Int):=by omega
   have y2:(q:Int)<=(l.length:Int):=by omega
   rw [hp,hqe] at hx;replace hp:=hid hp;replace hqe:=hid hqe;replace hnx:=hid hnx;replace hget:=hid hget;replace hl4:=hid hl4
   gi_wp2_with fail
   refine(callsIn_wide.2 (hget.out _)).mono ?_;rintro e w1⟨rfl,hb1⟩;have hJ1:J k X w1:=hJ _ _ _ _ _ hJs (Mod.of_below X hb1) (λk h=>.inl h);obtain⟨fn,tmps,assign,body,hy,hR⟩:=hnx.out w1 hJ1;clear e1
   gi_wp2
   refine hR.mono ?_;rintro e W'(⟨rfl,hJ', -⟩|⟨rfl,hx'⟩)
   ·clear hR hy
    gi_wp2
    go_roundw
    case rel=>exact⟨k+1,_,by go_num,by omega,hJ'⟩
    case measure=>simp [intOf];omega
   ·gi_wp2
    refine bodyPost_ret (results_none rfl _ _ _) rfl ?_;exact⟨⟨_,rfl⟩,.inr ⟨_,hx'⟩⟩
  ·obtain rfl:k=m:=by omega
   have t2:decide ((k:Int)<(k:Int))=false:=by simp
   gi_wp2
   go_end0
   exact⟨⟨_,rfl⟩,.inl ⟨k,X,rfl,hJs⟩⟩
