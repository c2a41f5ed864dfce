/- PARTS OF THE PROOF. -/
import Derived.Test.YtobnhnidffipjaaGreatDoorQ03
import Derived.Test.YtobnhnidffipjaaGreatDoorQ13
import Derived.Test.YtobnhnidffipjaaGreatDoorQ31
import Derived.Test.YtobnhnidffipjaaGreatDoorQ32
set_option maxRecDepth 8000
set_option maxHeartbeats 4000000
open Go.Proofs.Tryz
namespace Go.Proofs.YtobnhnidffipjaaGreatDoor
section
open Go Go.RowKit
variable {P:Program}{ops:Array Oper}{Q:Exit->Act->World->Prop}{S:World->Prop}{brk:Option Nat}
def zc7(ops:Array Oper)(listed:Array Bool):Bool:=
 (List.range ops.size).all λj=> !listed.getD j false||((ops[j]?.map λo=>o.after.toList.all λe=> !Region.binds .any e||listed.getD e.on false).getD true)
theorem zbF {listed:Array Bool}(h:zc7 ops listed=true):ZS ops listed:=by
 intro j oj hj hl e he hb;unfold zc7 at h;rw [List.all_eq_true] at h;have h1:=h j (List.mem_range.2 (N5.1 hj).1);rw [hl,hj] at h1;simp only [Bool.not_true,Bool.false_or,Option.map_some,Option.getD_some,List.all_eq_true] at h1;have h2:=h1 e (by simpa using he);rw [hb] at h2
 simpa using h2
def okQ(ops:Array Oper)(brk:Option Nat)(listed:Array Bool)(i:Nat):Bool:=(match brk with|none=>true|some f=> !listed.getD f true &&(zkb ops f).contains i && i !=f)&&(Region.ready .any ops listed).contains i && Region.free .any ops listed i
def Xh(ops:Array Oper)(brk:Option Nat):List (Nat×Bool)->Array Bool->Option (Array Bool)
 | [],listed=>some listed
 |(i,true)::r,listed=>if okQ ops brk listed i=true then Xh ops brk r (listed.setIfInBounds i true)else none
 |(i,false)::r,listed=>if(decide (Region.ready .any ops listed=[i])&& brk !=some i)=true then Xh ops brk r (listed.setIfInBounds i true)else none
theorem Jf(hsel:Region.noSelect ops=true){m:Nat}{last:Array Bool} :∀(l:List (Nat×Bool)) (listed:Array Bool) (a:Act) (w:World),Xh ops brk l listed=some last->ZS ops listed->(ZZ brk listed->S w)->
 yY P ops (λ_ a w=>(ZZ brk last->S w)->yv P ops (ji Q) S brk m last a w) S brk l a w->yv P ops (ji Q) S brk (l.length+m) listed a w
 | [],listed,a,w,hB,hc,hS,h=>by
   simp only [Xh,Option.some.injEq] at hB;subst hB;unfold yY at h;have h':=h hS
   rwa [show m=([]:List (Nat×Bool)).length+m by simp] at h'
 |(i,true)::l,listed,a,w,hB,hc,hS,h=>by
  simp only [Xh] at hB
  by_cases hk:okQ ops brk listed i=true
  ·rw [if_pos hk] at hB
   unfold okQ at hk;simp only [Bool.and_eq_true] at hk;obtain⟨⟨hk,hr⟩,hf⟩:=hk;have hr':i∈Region.ready .any ops listed:=by simpa using hr
   have has:ZZ brk listed:=λf hf=>by subst hf;simp at hk;simpa using hk.1.1
   unfold yY at h;obtain⟨o,v,ho,hy,h⟩:=h;rw [show((i,true)::l).length+m=(l.length+m)+1 by simp;omega]
   exact Zd ho (Region.noSelect_spec hsel) (λ_ _ _ h=>h) (λf hf=>(by subst hf;simp at hk;exact⟨hk.1.2,hk.2⟩)) _ listed a w hc has (Region.free_spec ho hf) hr' hy (hS has)
    (Jf hsel l _ _ w hB (hc.set hr') (λ_=>hS has) h)
  ·rw [if_neg hk] at hB;cases hB
 |(i,false)::l,listed,a,w,hB,hc,hS,h=>by
  simp only [Xh] at hB
  by_cases hk:(decide (Region.ready .any ops listed=[i])&& brk !=some i)=true
  ·rw [if_pos hk] at hB
   simp only [Bool.and_eq_true,decide_eq_true_eq,bne_iff_ne,ne_eq] at hk;obtain⟨hr,hb⟩:=hk;unfold yY at h;rw [show((i,false)::l).length+m=(l.length+m)+1 by simp;omega];refine⟨λh0=>(by rw [h0] at hr;cases hr),λj hj=>?_⟩;have hji:j=i:=by rw [hr] at hj;simpa using hj
   subst hji;refine wpOp_mono (λa' w' ⟨_,h2⟩=>?_) (vT h);obtain⟨hS',h3⟩:=h2 hb;exact⟨λ_=>hS',Jf hsel l _ a' w' hB (hc.set hj) (λ_=>hS') h3⟩
  ·rw [if_neg hk] at hB;cases hB
theorem yl {id m:Nat}{a:Act}{w:World}{l:List Oper}(sch:List (Nat×Bool))(brk:Option Nat)(S:World->Prop)(last:Array Bool)(hm:P.follows .mixedOrders=true)
 (hB:(Region.noSelect l.toArray && decide (sch.length+m=l.length)&& decide (Xh l.toArray brk sch (Array.replicate l.length false)=some last))=true) (hS:S w.drew)
 (h:yY P l.toArray (λ_ a w=>(ZZ brk last->S w)->yv P l.toArray (ji Q) S brk m last a w) S brk sch a w.drew):(Code.region id l.toArray true).wp P Q a w:=by
 simp only [Bool.and_eq_true,decide_eq_true_eq] at hB;obtain⟨⟨h1,h2⟩,h3⟩:=hB;have H:=Jf (m:=m) h1 sch _ a w.drew h3 (qz l) (λ_=>hS) h;rw [h2] at H;exact wp_mono (wp_region_any (Q:=ji Q) hm (by simpa using qp _ _ _ _ H)) (λe a w h=>ji.imp e a w h)
def YV(P:Program)(ops:Array Oper)(Q:Exit->Act->World->Prop)(S:World->Prop)(brk:Option Nat)(m:Nat)(listed:Array Bool)(a:Act)(w:World)(i:Nat):Prop:=
 wpOp P ops (λ_ _ _=>False) i (λa' w'=>(ZZ brk (listed.setIfInBounds i true)->S w')/\yv P ops (ji Q) S brk m (listed.setIfInBounds i true) a' w') a w
theorem Zp {m:Nat}{listed:Array Bool}{a:Act}{w:World}(i:Nat)(is:List Nat)(hk:Region.ready .any ops listed=i::is)(h:YV P ops Q S brk m listed a w i)(h2:∀j∈is,YV P ops Q S brk m listed a w j):yv P ops (ji Q) S brk (m+1) listed a w:=
 ⟨λh0=>absurd (hk.symm.trans h0) (by simp),λj hj=>by
  rw [hk] at hj
  rcases List.mem_cons.1 hj with e|e
  ·rw [e];exact vT h
  ·exact vT (h2 j e)⟩
theorem Zq {m:Nat}{listed:Array Bool}{a:Act}{w:World} :∀j∈([]:List Nat),YV P ops Q S brk m listed a w j:=λj hj=>by cases hj
theorem qw {m:Nat}{listed:Array Bool}{a:Act}{w:World}{i:Nat}{is:List Nat}(h:YV P ops Q S brk m listed a w i)(h2:∀j∈is,YV P ops Q S brk m listed a w j):∀j∈i::is,YV P ops Q S brk m listed a w j:=λj hj=>by
 rcases List.mem_cons.1 hj with e|e
 ·rw [e];exact h
 ·exact h2 j e
theorem xh {m i:Nat}{o:Oper}{listed:Array Bool}{a:Act}{w:World}(ho:ops[i]?=some o)
 (h:∀K:Act->World->Prop,Shut (∀a' w',S w'->yv P ops (ji Q) S brk m (listed.setIfInBounds i true) a' w'->K a' w')->wpList P ops (Exit.then K (λ_ _ _=>False)) [o] a w):YV P ops Q S brk m listed a w i:=
 jT ho (λK hK=>h K (λa' w' h1 h2=>hK.out a' w' ⟨λ_=>h1,h2⟩))
theorem zbG {m i:Nat}{o:Oper}{listed:Array Bool}{a:Act}{w:World}(ho:ops[i]?=some o)(hl:i<listed.size)
 (h:∀K:Act->World->Prop,Shut (∀a' w',yv P ops (ji Q) Qv none m (listed.setIfInBounds i true) a' w'->K a' w')->wpList P ops (Exit.then K (λ_ _ _=>False)) [o] a w):YV P ops Q S (some i) m listed a w i:=
 jT ho (λK hK=>h K (λa' w' h1=>hK.out a' w' ⟨λhas=>absurd (has i rfl) (by simp [hl]),Je _ _ _ _ (by simp [hl]) h1⟩))
theorem yC {m:Nat}{listed:Array Bool}{a:Act}{w:World}(sch:List (Nat×Bool))(hB:(Region.noSelect ops && decide (sch.length=m)&& zc7 ops listed && YT ops brk sch listed)=true)(hS:ZZ brk listed->S w)
 (h:yY P ops Q S brk sch a w):yv P ops (ji Q) S brk m listed a w:=by
 simp only [Bool.and_eq_true,decide_eq_true_eq] at hB;obtain⟨⟨⟨h1,h2⟩,h3⟩,h4⟩:=hB;subst h2;exact xW h1 sch S brk listed a w h4 (zbF h3) hS h
theorem vL {K V:Type} [DecidableEq K](i j:K)(x:V):∀l:List (K×V),zJ i (put j x l)=if i=j then some x else zJ i l
 | []=>by unfold put zJ;rfl
 |(a,b)::l=>by
  have ih:=vL i j x l;unfold put
  by_cases h:j=a
  ·rw [if_pos h];subst h
   unfold zJ
   by_cases hi:i=j<;>simp [hi]
  ·rw [if_neg h]
   unfold zJ;rw [ih]
   by_cases hi:i=a
   ·subst hi;rw [if_pos rfl,if_pos rfl,if_neg (λe=>h e.symm)]
   ·rw [if_neg hi,if_neg hi]
def zaj:List Nat->List (List Nat)
 | []=>[[]]
 |i::r=>(zaj r).map (i::·)++zaj r
def zfJ(listed:Array Bool)(R rest:List Nat):Array Bool:=R.foldl (λL i=>if rest.contains i then L else L.setIfInBounds i true) listed
def zc8(ops:Array Oper)(listed:Array Bool)(R:List Nat):Bool:=
 (zaj R).all λrest=>rest.isEmpty||(decide (Region.ready .any ops (zfJ listed R rest)=rest)&& rest.all λi=>R.contains i && decide ((zfJ listed R rest).setIfInBounds i true=zfJ listed R (rest.filter (· !=i)))&&(zaj R).contains (rest.filter (· !=i))&& decide ((rest.filter (· !=i)).length+1=rest.length))
theorem zc9 {m mb:Nat}{listed:Array Bool}{a:Act}{K:Type} [DecidableEq K] {enc:K->Value}(R:List Nat)(tbl:Nat->K×Value)(W0:World)(hok:zc8 ops listed R=true)(htb:∀i∈R,∀j∈R,(tbl i).1=(tbl j).1->i=j)(hmb:W0.heap.size<=mb)
 (hrun:∀i∈R,∀W l,zU W mb enc l->wpOp P ops (λ_ _ _=>False) i (λa' w'=>a'=a/\(∃o,w'=W.putObj mb o)/\zU w' mb enc (put (tbl i).1 (tbl i).2 l)) a W)
 (hend:∀W l,zU W mb enc l->(∀i∈R,zJ (tbl i).1 l=some (tbl i).2)->Below W0.heap.size W0 W->yv P ops (ji Q) Qv none m (zfJ listed R []) a W):
 ∀(n:Nat)(rest:List Nat)(W:World)(l:List (K×Value)),rest.length=n->rest∈zaj R->zU W mb enc l->(∀i∈R,i∉rest->zJ (tbl i).1 l=some (tbl i).2)->Below W0.heap.size W0 W->yv P ops (ji Q) Qv none (n+m) (zfJ listed R rest) a W:=by
 intro n
 induction n with
 |zero=>
  intro rest W l hl hs hM hR hb;obtain rfl:=N9 hl;rw [Nat.zero_add];exact hend W l hM (λi hi=>hR i hi (by simp)) hb
 |succ n ih=>
  intro rest W l hl hs hM hR hb;have h1:=hok;unfold zc8 at h1;rw [List.all_eq_true] at h1;have h2:=h1 rest hs;rw [Bool.or_eq_true] at h2
  rcases h2 with h2|h2
  ·have:rest=[]:=by simpa using h2
   subst this;simp at hl
  ·simp only [Bool.and_eq_true,decide_eq_true_eq,List.all_eq_true] at h2
   obtain⟨h3,h4⟩:=h2;rw [show n+1+m=(n+m)+1 by omega];refine⟨λh0=>(by rw [h3] at h0;subst h0;simp at hl),λi hi=>?_⟩;rw [h3] at hi;obtain⟨⟨⟨h5,h6⟩,h7⟩,h8⟩:=h4 i hi;have hiR:i∈R:=by simpa using h5
   refine vT (wpOp_mono (λa' w' h=>?_) (hrun i hiR W l hM));obtain⟨rfl,⟨o,rfl⟩,hM'⟩:=h;refine⟨λ_=>trivial,?_⟩;rw [h6];refine ih _ _ _ (by omega) (by simpa using h7) hM' (λj hj hjn=>?_) (zF hb hmb o);have hlp:zJ (tbl j).1 (put (tbl i).1 (tbl i).2 l)=if(tbl j).1=(tbl i).1 then some (tbl i).2 else zJ (tbl j).1 l:=vL _ _ _ l
   rw [hlp]
   by_cases hji:j=i
   ·subst hji;rw [if_pos rfl]
   ·rw [if_neg (λe=>hji (htb j hj i hiR e))]
    exact hR j hj (λh=>hjn (by simp [h,hji]))
theorem zjT {m mb:Nat}{listed:Array Bool}{a:Act}{w:World}{K:Type} [DecidableEq K] {enc:K->Value}(R:List Nat)(tbl:Nat->K×Value)(hok:(zc8 ops listed R && decide (R∈zaj R)&& decide (zfJ listed R R=listed))=true)(htb:∀i∈R,∀j∈R,(tbl i).1=(tbl j).1->i=j)(W0:World)(hmb:W0.heap.size<=mb)(hb0:Below W0.heap.size W0 w)
 (hM:zU w mb enc []) (hrun:∀i∈R,∀W l,zU W mb enc l->wpOp P ops (λ_ _ _=>False) i (λa' w'=>a'=a/\(∃o,w'=W.putObj mb o)/\zU w' mb enc (put (tbl i).1 (tbl i).2 l)) a W)
 (hend:∀W l,zU W mb enc l->(∀i∈R,zJ (tbl i).1 l=some (tbl i).2)->Below W0.heap.size W0 W->yv P ops (ji Q) Qv none m (zfJ listed R []) a W):yv P ops (ji Q) Qv none (R.length+m) listed a w:=by
 simp only [Bool.and_eq_true,decide_eq_true_eq] at hok;obtain⟨⟨h1,h2⟩,h3⟩:=hok;have:=zc9 R tbl W0 h1 htb hmb hrun hend R.length R w [] rfl h2 hM (λi hi hn=>absurd hi hn) hb0
 rwa [h3] at this
end
section
open Go Go.RowKit Go.Shelf Go.Extern.Stop Go.Stop Go.Extern
attribute [local go_sem] Oper.semAt_some zw zn
def zfK(k:Int×Int):Value:=.agg #[.int .i64 k.1,.int .i64 k.2]
theorem zjU(n:Nat)(b:Bool)(x y:Int)(w:World):(Instr.checkKey b (n+1+1) 332 (.agg #[.int .i64 x,.int .i64 y])).run prog w=.ok () w:=by
 simp [Instr.checkKey,go_sem,List.range',Tryz.sizeOf3,Tryz.isAgg3]
theorem zkv(n:Nat)(a b c d:Int)(w:World):(Op.equalIn (n+1+1) 332 (.agg #[.int .i64 a,.int .i64 b]) (.agg #[.int .i64 c,.int .i64 d])).run prog w=.ok (decide (a=c/\b=d)) w:=by
 simp [Op.equalIn,go_sem,List.range',Tryz.sizeOf3,Tryz.isAgg3]
 by_cases h1:a=c<;>by_cases h2:b=d<;>simp [h1,h2]
theorem zbH:x8 prog 332 zfK where
 eq:=λk k' w=>by
  obtain⟨a,b⟩:=k;obtain⟨c,d⟩:=k';have h:(Op.equal 332 (zfK (a,b)) (zfK (c,d))).run prog w=(Op.equalIn 10000 332 (.agg #[.int .i64 a,.int .i64 b]) (.agg #[.int .i64 c,.int .i64 d])).run prog w:=rfl;rw [h];rw [zkv 9998];simp [Prod.ext_iff]
 chk:=λb k w=>zjU 9998 b k.1 k.2 w
 bits:=λk=>by simp [zfK,Instr.sameBits]
 now:=⟨_,Tryz.underlying332,λk k'=>by left;rfl⟩
theorem zfL(w:World):Calls prog 199 #[] w λe w'=>∃(mb:Nat)(l:List ((Int×Int)×Value)),e=.returned (.map (some mb))/\Below w.heap.size w w'/\zU w' mb zfK l/\zJ (1,1) l=some (.int .i64 1):=by
 have hmm:= @run_makeMap prog
 go_enter func199,ntmps199
 go_wp2_with fail
 refine yl [O 1,O 3,O 5,O 7,E 0] none Qv #[true,true,false,true,false,true,false,true,false,false,false] (m:=6) (by kernel_rfl) (by kernel_rfl) trivial ?_
 (repeat (refine zA (v:=?_) rfl rfl (λw' h=>?_) (λK k=>?_);rotate_left;obtain⟨f1,f2,f3,f4,f5,_⟩:=h;(try have e1:=f1.cell);(try have e2:=f2.cell);(try have e3:=f3.cell);(try have e4:=f4.cell);(try have e5:=f5.cell);go_simp;(try with_reducible rfl);go_simp;refine k _ ?_;clear k K))
 refine zQ rfl (by simp) (λK hK=>?_);go_wp2;refine hK.out _ _ trivial ?_;clear hK K;refine zY (λ_=>?_);have hM:zU (w.alloc (.map #[] 0)).drew w.heap.size zfK []:=(zU.made w zfK).kept rfl;refine zjT (m:=2) (mb:=w.heap.size) (enc:=zfK) [2,4,6,8] (λi=>if i=2 then((1,1),.int .i64 1)else if i=4 then((1,2),.int .i64 1)else if i=6 then((2,1),.int .i64 1)else((2,2),.int .i64 2)) (by kernel_rfl) (by decide) w (N0 _) (zo (zg (N2 _ _) _)) hM ?_ ?_
 ·intro i hi W l hM
  simp only [List.mem_cons,List.mem_nil_iff,or_false] at hi
  rcases hi with rfl|rfl|rfl|rfl
  ·
    refine jT rfl (λK hK=>?_);obtain⟨o,hu,hM⟩:=hM.update zbH Tryz.underlying330 ((1,1):Int×Int) (.int .i64 1);unfold zfK at hu;go_wp2;exact hK.out _ _ ⟨rfl,⟨_,rfl⟩,hM⟩
  ·
    refine jT rfl (λK hK=>?_);obtain⟨o,hu,hM⟩:=hM.update zbH Tryz.underlying330 ((1,2):Int×Int) (.int .i64 1);unfold zfK at hu;go_wp2;exact hK.out _ _ ⟨rfl,⟨_,rfl⟩,hM⟩
  ·
    refine jT rfl (λK hK=>?_);obtain⟨o,hu,hM⟩:=hM.update zbH Tryz.underlying330 ((2,1):Int×Int) (.int .i64 1);unfold zfK at hu;go_wp2;exact hK.out _ _ ⟨rfl,⟨_,rfl⟩,hM⟩
  ·
    refine jT rfl (λK hK=>?_);obtain⟨o,hu,hM⟩:=hM.update zbH Tryz.underlying330 ((2,2):Int×Int) (.int .i64 2);unfold zfK at hu;go_wp2;exact hK.out _ _ ⟨rfl,⟨_,rfl⟩,hM⟩
 ·intro W l hM hl hb
  refine yC [O 9,O 10] (by kernel_rfl) (λ_=>trivial) ?_
  (repeat (refine zA (v:=?_) rfl rfl (λw' h=>?_) (λK k=>?_);rotate_left;obtain⟨f1,f2,f3,f4,f5,_⟩:=h;(try have e1:=f1.cell);(try have e2:=f2.cell);(try have e3:=f3.cell);(try have e4:=f4.cell);(try have e5:=f5.cell);go_simp;(try with_reducible rfl);go_simp;refine k _ ?_;clear k K))
  refine zY ?_;go_wp2;go_ret
  exact⟨_,_,rfl,hb,hM,hl 2 (by simp)⟩
theorem Yz(w:World):Calls prog 158 #[.int .i64 1,.int .i64 1] w λe w'=>e=.returned (.tuple #[.int .i64 1,.int .i64 0])/\Below w.heap.size w w':=by
 go_enter func158,ntmps158
 go_wp2_with fail
 refine(zfL _).mono ?_;rintro e w1⟨mb,l,rfl,hb1,hM,hl⟩;have hlk:=hM.lookup_ok zbH Tryz.underlying330 (z:=.int .i64 0) (by kernel_rfl) (1,1);rw [hl] at hlk;simp only [Option.getD_some,Option.isSome_some] at hlk;unfold zfK at hlk;clear hM hl;go_wp2;go_ret2
 exact⟨rfl,hb1⟩
def Jl(kind src dst:Int)(d:List UInt8):Value:=.agg #[.int .i64 1,.int .i64 kind,.int .i64 src,.int .i64 dst,.int .u32 0,.int .u32 0,.int .u32 0,.int .u32 0,.string (bs d)]
def zkH(kind src dst:Int)(d:List UInt8):Array Value:=#[.int .i64 1,.int .i64 kind,.int .i64 src,.int .i64 dst,.int .u32 0,.int .u32 0,.int .u32 0,.int .u32 0,.string (bs d)]
theorem zkw(n:Nat)(k s d:Int)(b:ByteArray)(w:World):(Op.equalIn (n+1+1) 157 (.agg #[.int .i64 1,.int .i64 k,.int .i64 s,.int .i64 d,.int .u32 0,.int .u32 0,.int .u32 0,.int .u32 0,.string b]) (.agg #[.int .i64 1,.int .i64 k,.int .i64 s,.int .i64 d,.int .u32 0,.int .u32 0,.int .u32 0,.int .u32 0,.string b])).run prog w=.ok true w:=by
 simp [go_sem]
theorem zfM(k s d:Int)(b:List UInt8)(w:World):Calls prog 201 #[Jl k s d b,.int .i64 1] w λe w'=>e=.returned (Jl k s d b)/\Below w.heap.size w w':=by
 unfold Jl
 go_enter func201,ntmps201
 go_wp2;exact bodyPost_ret (v:=.agg #[.int .i64 1,.int .i64 k,.int .i64 s,.int .i64 d,.int .u32 0,.int .u32 0,.int .u32 0,.int .u32 0,.string (bs b)]) (by simp [results,Tryz.results201,go_sem]) rfl ⟨rfl,pbx⟩
theorem zjV(k s d:Int)(b:ByteArray)(w:World):(binOp .eql 157 (.agg #[.int .i64 1,.int .i64 k,.int .i64 s,.int .i64 d,.int .u32 0,.int .u32 0,.int .u32 0,.int .u32 0,.string b]) (.agg #[.int .i64 1,.int .i64 k,.int .i64 s,.int .i64 d,.int .u32 0,.int .u32 0,.int .u32 0,.int .u32 0,.string b])).run prog w=.ok (.bool true) w:=by
 have h:(Op.equalIn Op.maxDepth 157 (.agg #[.int .i64 1,.int .i64 k,.int .i64 s,.int .i64 d,.int .u32 0,.int .u32 0,.int .u32 0,.int .u32 0,.string b]) (.agg #[.int .i64 1,.int .i64 k,.int .i64 s,.int .i64 d,.int .u32 0,.int .u32 0,.int .u32 0,.int .u32 0,.string b])).run prog w=.ok true w:=zkw 9998 k s d b w;simp [binOp,Op.equal,h,Result.andThen,go_sem]
theorem Qx(k s d:Int)(b:List UInt8)(hk:0<=k/\k<=31)(hs:0<=s/\s<16)(hd:0<=d/\d<16)(w:World):Calls prog 160 #[Jl k s d b] w λe w'=>e=.returned (.bool (decide (b.length<=4096)))/\Below w.heap.size w w':=by
 have htu:=λW=>zfM k s d b W
 have hsz:=zC b;have heq:=λW=>zjV k s d (bs b) W
 unfold Jl at htu⊢;have t1:decide (k<0)=false:=by simp;omega
 have t2:decide (31<k)=false:=by simp;omega
 have t3:decide (s<0)=false:=by simp;omega
 have t4:decide (16<=s)=false:=by simp;omega
 have t5:decide (d<0)=false:=by simp;omega
 have t6:decide (16<=d)=false:=by simp;omega
 have kB:=Blk.new (w:=w) (b:=w.heap.size) (cs:=#[.int .i64 1,.int .i64 k,.int .i64 s,.int .i64 d,.int .u32 0,.int .u32 0,.int .u32 0,.int .u32 0,.string (bs b)]) (t:=157) rfl;replace htu:=G htu;replace heq:=G heq;replace hsz:=G hsz;clear hk hs hd
 by_cases hl:b.length<=4096
 ·have t7:decide ((4096:Int)<((bs b).size:Int))=false:=by rw [hsz.out];simp;omega
  rw [show decide (b.length<=4096)=true by simpa using hl];replace hl:=G hl
  go_enter func160,ntmps160
  go_wp2_with fail
  refine(Yz _).mono ?_;rintro e w1⟨rfl,hb1⟩;have k1:=kB.call hb1;have c1:=k1.cell;have hb1w:Below w.heap.size w w1:=pbx;go_wp2_with fail
  clear c1;refine zd [O 0,O 1,O 2,O 3,E 4,O 5,O 6] none (λw'=>Blk w' w.heap.size #[.int .i64 1,.int .i64 k,.int .i64 s,.int .i64 d,.int .u32 0,.int .u32 0,.int .u32 0,.int .u32 0,.string (bs b)] 157/\True) (by kernel_rfl) (by kernel_rfl) ⟨k1.drew,trivial⟩ ?_
  (repeat (refine za (v:=?_) rfl rfl (λw' h=>?_) (λK k=>?_);rotate_left;obtain⟨f1,_⟩:=h;have e1:=f1.cell;go_simp;(try with_reducible rfl);go_simp;refine k _ ?_;clear k K))
  refine zc rfl (λK hK=>?_);go_wp2_with fail
  refine(htu.out _).mono ?_;rintro e w2⟨rfl,hb2⟩;have k2:=k1.drew.call hb2;have hb2w:=zf (zo hb1w) hb2;go_wp2;refine hK.out _ _ (λ_=>⟨k2,trivial⟩) ?_;clear hK K;have heq':=heq.out
  (repeat (refine za (v:=?_) rfl rfl (λw' h=>?_) (λK k=>?_);rotate_left;obtain⟨f1,_⟩:=h;have e1:=f1.cell;go_simp;(try with_reducible rfl);go_simp;refine k _ ?_;clear k K))
  refine ze ?_;go_wp2;go_ret
  exact⟨rfl,hb2w⟩
 ·have t7:decide ((4096:Int)<((bs b).size:Int))=true:=by rw [hsz.out];simp;omega
  rw [show decide (b.length<=4096)=false by simpa using hl];replace hl:=G hl
  go_enter func160,ntmps160
  go_wp2_with fail
  refine(Yz _).mono ?_;rintro e w1⟨rfl,hb1⟩;have k1:=kB.call hb1;have c1:=k1.cell;have hb1w:Below w.heap.size w w1:=pbx;go_wp2;go_ret
  exact⟨rfl,hb1w⟩
end
section
open Go
theorem vZ {i:Int}(h0:0<=i)(h1:i<256):(yS i).toNat=i.toNat:=by
 unfold yS;rw [UInt8.toNat_ofNat'];omega
def qx(kind src dst:Int)(data:List UInt8):vx:=⟨1,kind,src,dst,0,0,0,0,data⟩
theorem zbI {kind src dst:Int}{data:List UInt8}(hk:0<=kind)(hk2:kind<=31)(hs:0<=src)(hs2:src<16)(hd:0<=dst)(hd2:dst<16)(hl:data.length<=4096):JY (qx kind src dst data)=true:=by
 unfold JY qx;simp
 omega
theorem zjW {kind src dst:Int}{data:List UInt8}(hk:0<=kind)(hk2:kind<=31)(hs:0<=src)(hs2:src<16)(hd:0<=dst)(hd2:dst<16)(hl:data.length<=4096):
 (ZG (qx kind src dst data)).2=0/\zhj (ZG (qx kind src dst data)).1=(qx kind src dst data,0):=by
 have hr:=zbI hk hk2 hs hs2 hd hd2 hl
 have he:ZG (qx kind src dst data)=(qD (72::1::yS kind::yS (src*16+dst)::0::0::0::0::0::0::0::0::0::0::0::0::(le4 data.length++data)),0):=by
  unfold ZG;rw [if_neg (by rw [hr];simp)];have z:le4 0=[0,0,0,0]:=rfl;have w1:yS 1=1:=rfl
  show(qD ([72,yS 1,yS kind,yS (src*16+dst)] ++le4 0++le4 0++le4 0++(if(1:Int)=2 then le4 0 else [])++le4 data.length++data),(0:Int))=_
  rw [z,w1,if_neg (by decide)];simp
 rw [he];refine⟨rfl,?_⟩;unfold zhj;rw [VK];simp only;obtain⟨l4,h4⟩:∃l4,l4=le4 data.length:=⟨_,rfl⟩;have h4l:l4.length=4:=by rw [h4];rfl
 rw [← h4];have hg:yq l4=data.length:=by rw [h4,xy];omega
 have w0:yq [(0:UInt8),0,0,0]=0:=rfl;have k1:=vZ hk (by omega);have k2:=vZ (i:=src*16+dst) (by omega) (by omega);unfold zkt;rw [if_neg (by simp [y9]),if_neg (by simp [y9]),if_pos (by simp [y9])];rw [if_neg (by simp [h4l])]
 have e16:je (72::1::yS kind::yS (src*16+dst)::0::0::0::0::0::0::0::0::0::0::0::0::(l4++data)) 16=data.length:=by
  unfold je
  show yq ((l4++data).take 4)=_
  rw [List.take_append_of_le_length (by omega),List.take_of_length_le (by omega),hg]
 have e20:(72::1::yS kind::yS (src*16+dst)::0::0::0::0::0::0::0::0::0::0::0::0::(l4++data)).drop 20=data:=by
  show(l4++data).drop 4=data
  rw [List.drop_append_of_le_length (by omega),List.drop_of_length_le (by omega),List.nil_append]
 have b2:y9 (72::1::yS kind::yS (src*16+dst)::0::0::0::0::0::0::0::0::0::0::0::0::(l4++data)) 2=kind.toNat:=k1;have b3:y9 (72::1::yS kind::yS (src*16+dst)::0::0::0::0::0::0::0::0::0::0::0::0::(l4++data)) 3=(src*16+dst).toNat:=k2
 have w4:∀i,i=4∨i=8∨i=12->je (72::1::yS kind::yS (src*16+dst)::0::0::0::0::0::0::0::0::0::0::0::0::(l4++data)) i=0:=by
  rintro i(rfl|rfl|rfl)<;>rfl
 rw [b2,b3,e16,e20,w4 4 (by simp),w4 8 (by simp),w4 12 (by simp)]
 have hf:(⟨1,(kind.toNat:Int),(((src*16+dst).toNat:Int)) / 16,((src*16+dst).toNat:Int)% 16,0,0,0,0,data⟩:vx)=qx kind src dst data:=by
  unfold qx
  congr 1<;>omega
 rw [hf,hr,if_pos ⟨by simp [h4l],rfl⟩]
end
open Go Go.RowKit Go.Shelf Go.Extern.Stop Go.Stop Go.Extern
attribute [local go_sem] Oper.semAt_some zw zn
def zlc(l:List Nat):List Value:=l.map λ(n:Nat)=>.int .u32 n
theorem zef(s:List UInt8)(b:Nat)(ns:List Nat)(w:World)(hv:Src w (.slice (some ⟨b,0,none⟩) ns.length ns.length) 1 ns.length (zlc ns))(hn:ns.length<=10)(hs:s.length<=100000):
 Calls prog 196 #[.string (bs s),.slice (some ⟨b,0,none⟩) ns.length ns.length] w λe w'=>e=.returned (.string (bs (s++ns.flatMap le4)))/\Below w.heap.size w w':=by
 have hlen:∀k,((ns.take k).flatMap le4).length<=40:=λk=>by
  have h:∀l:List Nat,(l.flatMap le4).length=4*l.length:=λl=>by
   induction l with
   |nil=>rfl
   |cons a l ih=>rw [List.flatMap_cons,N1,ih,jb,List.length_cons];omega
  rw [h,N7];omega
 replace hlen:=G hlen
 go_enter func196,ntmps196
 go_wp2
 go_loopw [0,9] (λp0 p9 wr=>∃k:Nat,p0=.string (bs (s++(ns.take k).flatMap le4))/\p9=.int .i64 (k:Nat)/\k<=ns.length/\Below w.heap.size w wr) (λ_ p9 _=>ns.length - (intOf p9).toNat)
 case atStart=>exact⟨0,by simp,rfl,by omega,N2 _ _⟩
 case round=>
  obtain⟨k,rfl,rfl,hk,hbk⟩:=hrel
  by_cases hkl:k<ns.length
  ·have t2:decide ((k:Int)<(ns.length:Int))=true:=by simpa using hkl
   have hwk:IntKind.i64.wrap ((k:Int)+1)=(k:Int)+1:=by rw [N8];omega
   obtain⟨x,hx⟩:∃x,ns[k]?=some x:=⟨_,N3 hkl⟩;have y0:(0:Int)<=(k:Int):=by omega
   have y1:(k:Int)<(ns.length:Int):=by omega
   have c0:wr.cell? ⟨b,k,none⟩=some (.int .u32 x):=by
    rcases(hv.below hbk).2 with⟨h, -⟩|⟨b',off,cap,h, -,hr⟩
    ·cases h
    ·cases h
     have:=hr k (.int .u32 x) (by unfold zlc;rw [List.getElem?_map,hx];rfl)
     rwa [Nat.zero_add] at this
   have hadd:=ZU (s++(ns.take k).flatMap le4) (le4 x) (by rw [N1,jb];have:=hlen.out k;omega)
   have htk:s++(ns.take (k+1)).flatMap le4=s++(ns.take k).flatMap le4++le4 x:=by
    rw [List.take_add_one,hx];simp [List.flatMap_append]
   rw [← htk] at hadd;replace htk:=G htk;replace hx:=G hx;replace hadd:=G hadd;go_wp2_with fail
   refine(yF _ _).mono ?_;rintro e w1⟨rfl,hb1⟩;have hadd':=hadd.out w1;clear c0;go_wp2
   go_roundw
   case rel=>exact⟨k+1,rfl,by simp,by omega,zf hbk hb1⟩
   case measure=>simp [intOf];omega
  ·obtain rfl:k=ns.length:=by omega
   have t2:decide ((ns.length:Int)<(ns.length:Int))=false:=by simp
   rw [List.take_length] at*;go_wp2;go_ret
   exact⟨rfl,hbk⟩
theorem ziO:∀s<16,∀d<16,bits .or .i64 ((s*16:Nat):Int) ((d:Nat):Int)=((s*16+d:Nat):Int):=by decide
theorem zkR(k x:UInt8)(W:World):(convert 130 9 (.slice (some ⟨W.heap.size,0,none⟩) 4 4)).run prog (W.alloc (.cells #[.int .u8 72,.int .u8 1,.int .u8 (k.toNat:Int),.int .u8 (x.toNat:Int)] 5))=.ok (.string (bs [72,1,k,x])) (W.alloc (.cells #[.int .u8 72,.int .u8 1,.int .u8 (k.toNat:Int),.int .u8 (x.toNat:Int)] 5)):=by
 have hk:=run_convert_bytes_arg (P:=prog) (W.alloc (.cells #[.int .u8 72,.int .u8 1,.int .u8 (k.toNat:Int),.int .u8 (x.toNat:Int)] 5)) 130 5 Tryz.underlying130 Tryz.underlying5 W.heap.size 0 4 4 [72,1,(k.toNat:Int),(x.toNat:Int)] rfl (λi hi=>by
  obtain rfl|rfl|rfl|rfl:i=0∨i=1∨i=2∨i=3:=by have:i<4:=hi;omega
  all_goals (rw [(Blk.new (w:=W) rfl).cell];rfl)) 9 Tryz.underlying9
 rw [hk];have h:strOfNums [72,1,(k.toNat:Int),(x.toNat:Int)]=bs [72,1,k,x]:=by unfold strOfNums bs;simp
 rw [h]
theorem zak {k s d:Nat}{b:List UInt8}(hk:k<=31)(hs:s<16)(hd:d<16):ZG (qx k s d b)=if b.length<=4096 then(qD (([72,1,yS k,yS (s*16+d:Nat)] ++ [0,0,0].flatMap le4)++ [b.length].flatMap le4++b),0)else([],20):=by
 by_cases hb:b.length<=4096
 ·rw [if_pos hb]
  have hr:=zbI (kind:=(k:Int)) (src:=(s:Int)) (dst:=(d:Int)) (data:=b) (by omega) (by omega) (by omega) (by omega) (by omega) (by omega) hb;unfold ZG;rw [if_neg (by rw [hr];simp)];rfl
 ·rw [if_neg hb]
  unfold ZG;rw [if_pos (by unfold JY qx;simp;omega)]
theorem zkS(s:List UInt8)(hs:s.length<=100000)(b:Nat)(W:World)(hB:Blk W b #[.int .u32 0,.int .u32 0,.int .u32 0] 30):Calls prog 196 #[.string (bs s),.slice (some ⟨b,0,none⟩) 3 3] W λe w'=>e=.returned (.string (bs (s++ [0,0,0].flatMap le4)))/\Below W.heap.size W w':=
 zef s b [0,0,0] W (jB (n:=3) (size:=1) (cap:=3) hB rfl (N0 3)) (by simp) hs
theorem zkT(s:List UInt8)(hs:s.length<=100000)(n b:Nat)(W:World)(hB:Blk W b #[.int .u32 (n:Nat)] 30):Calls prog 196 #[.string (bs s),.slice (some ⟨b,0,none⟩) 1 1] W λe w'=>e=.returned (.string (bs (s++ [n].flatMap le4)))/\Below W.heap.size W w':=
 zef s b [n] W (jB (n:=1) (size:=1) (cap:=1) hB rfl (N0 1)) (by simp) hs
theorem zda(k s d:Nat)(b:List UInt8)(hk:k<=31)(hs:s<16)(hd:d<16)(hb:b.length<=1000000)(w:World):Calls prog 154 #[Jl k s d b] w λe w'=>e=.returned (.tuple #[.string (bs (ZG (qx k s d b)).1),.int .i64 (ZG (qx k s d b)).2])/\Below w.heap.size w w':=by
 have hri:=λW=>Qx k s d b ⟨by omega,by omega⟩ ⟨by omega,by omega⟩ ⟨by omega,by omega⟩ W
 have hsz:=zC b;rw [zak hk hs hd];unfold Jl at hri⊢;have kB:=Blk.new (w:=w) (b:=w.heap.size) (cs:=#[.int .i64 1,.int .i64 k,.int .i64 s,.int .i64 d,.int .u32 0,.int .u32 0,.int .u32 0,.int .u32 0,.string (bs b)]) (t:=157) rfl;have hor:=ziO s hs d hd;have ho2:IntKind.i64.wrap ((s:Int)*16)=((s*16:Nat):Int):=by rw [N8];omega
 have hbk:=vZ (i:=(k:Int)) (by omega) (by omega);have hbx:=vZ (i:=((s*16+d:Nat):Int)) (by omega) (by omega);have hwk:IntKind.u8.wrap (k:Int)=((yS k).toNat:Int):=by rw [IntKind.wrap_u8,hbk];omega
 have hwx:IntKind.u8.wrap ((s*16+d:Nat):Int)=((yS (s*16+d:Nat)).toNat:Int):=by rw [IntKind.wrap_u8,hbx];omega
 generalize yS (k:Int)=kb at*
 generalize yS ((s*16+d:Nat):Int)=xb at*
 generalize s*16+d=sd at*
 generalize s*16=s16 at*
 replace hsz:=G hsz;replace hbk:=G hbk;replace hbx:=G hbx;clear hk hs hd
 by_cases hl:b.length<=4096
 ·rw [if_pos hl]
  simp only [show decide (b.length<=4096)=true by simpa using hl] at hri;replace hri:=G hri;obtain⟨s1,hs1⟩:∃s1,[72,1,kb,xb]=s1:=⟨_,rfl⟩;obtain⟨s2,hs2⟩:∃s2,s1++ [0,0,0].flatMap le4=s2:=⟨_,rfl⟩;obtain⟨s3,hs3⟩:∃s3,s2++ [b.length].flatMap le4=s3:=⟨_,rfl⟩;have hlen3:s3.length=20:=by rw [← hs3,← hs2,← hs1];simp [le4]
  have hp1:=λb W hW=>zkS s1 (by rw [← hs1];simp) b W hW
  have hp2:=λc W hW=>zkT s2 (by rw [← hs2,← hs1];simp [le4]) b.length c W hW
  rw [hs2] at hp1;rw [hs3] at hp2;have hse:=λW=>zdU (s3++b) (by rw [N1];omega) W
  have had:=ZU s3 b (by omega);have hcv:=λW=>zkR kb xb W
  rw [hs1,hs2,hs3];simp only [hs1] at hcv;replace hs1:=G hs1;replace hs2:=G hs2;replace hs3:=G hs3;replace hlen3:=G hlen3;have hwl:(b.length:Int)% 4294967296=(b.length:Int):=by omega
  have hsz':=hsz.out;replace hl:=G hl;replace hp1:=G hp1;replace hp2:=G hp2;replace hse:=G hse;replace had:=G had;replace hb:=G hb
  go_enter func154,ntmps154
  go_wp2_with fail
  refine(hri.out _).mono ?_;rintro e w1⟨rfl,hb1⟩;have k1:=kB.call hb1;have c1:=k1.cell;have l1:=k1.lt;have hb1w:Below w.heap.size w w1:=pbx;have hcv':=hcv w1;go_wp2_with fail
  refine(hp1.out _ _ (Blk.new (by simp))).mono ?_;rintro e w2⟨rfl,hb2⟩;have hb2':Below w1.heap.size w1 w2:=pbx;have k2:=k1.call hb2';have c2:=k2.cell;have l2:=k2.lt;have hb2w:=zf hb1w hb2';clear c1 l1;go_wp2_with fail
  refine zd [O 0,O 1,O 2,O 3,O 4,O 7,O 8,E 5,E 6,O 9,E 10,O 11,O 12] none (λw'=>Blk w' w.heap.size #[.int .i64 1,.int .i64 k,.int .i64 s,.int .i64 d,.int .u32 0,.int .u32 0,.int .u32 0,.int .u32 0,.string (bs b)] 157/\True) (by kernel_rfl) (by kernel_rfl) ⟨k2.drew,trivial⟩ ?_;clear c2
  (repeat (refine za (v:=?_) rfl rfl (λw' h=>?_) (λK k=>?_);rotate_left;obtain⟨f1,_⟩:=h;have e1:=f1.cell;go_simp;(try with_reducible rfl);go_simp;refine k _ ?_;clear k K))
  refine zc rfl (λK hK=>?_);go_wp2;refine hK.out _ _ (λ_=>⟨(k2.drew.alloc _),trivial⟩) ?_;clear hK K;refine zc rfl (λK hK=>?_);go_wp2_with fail
  refine(hp2.out _ _ ((Blk.new rfl).drew)).mono ?_;rintro e w3⟨rfl,hb3⟩;have hb3':Below w2.heap.size w2 w3:=pbx;have k3:=k2.call hb3';have hb3w:=zf hb2w hb3';go_wp2;refine hK.out _ _ (λ_=>⟨k3,trivial⟩) ?_;clear hK K;have had':=had.out
  (repeat (refine za (v:=?_) rfl rfl (λw' h=>?_) (λK k=>?_);rotate_left;obtain⟨f1,_⟩:=h;have e1:=f1.cell;go_simp;(try with_reducible rfl);go_simp;refine k _ ?_;clear k K))
  refine zc rfl (λK hK=>?_);go_wp2_with fail
  refine(hse.out _).mono ?_;rintro e w4⟨rfl,hb4⟩;go_wp2;refine hK.out _ _ (λ_=>⟨k3.call hb4,trivial⟩) ?_;clear hK K
  (repeat (refine za (v:=?_) rfl rfl (λw' h=>?_) (λK k=>?_);rotate_left;obtain⟨f1,_⟩:=h;have e1:=f1.cell;go_simp;(try with_reducible rfl);go_simp;refine k _ ?_;clear k K))
  refine ze ?_;go_wp2;go_ret2
  exact⟨rfl,zf hb3w hb4⟩
 ·rw [if_neg hl]
  simp only [show decide (b.length<=4096)=false by simpa using hl] at hri;replace hri:=G hri;replace hl:=G hl;replace hb:=G hb
  go_enter func154,ntmps154
  go_wp2_with fail
  refine(hri.out _).mono ?_;rintro e w1⟨rfl,hb1⟩;have k1:=kB.call hb1;have c1:=k1.cell;have l1:=k1.lt;have hb1w:Below w.heap.size w w1:=pbx;go_wp2;go_ret2
  exact⟨rfl,hb1w⟩
theorem zdb(s:ByteArray)(w:World):Calls prog 159 #[.string s] w λe w'=>
 e=.returned (.func (.func 200) #[] #[.pointer (some ⟨w.heap.size,0,none⟩)])/\w'=w.alloc (.cells #[.string s] 9):=by
 go_enter func159,ntmps159
 go_wp2;go_ret
 exact⟨rfl,rfl⟩
theorem zfN(d:List UInt8)(a n:Nat):(bs d).extract a (a+n)=bs ((d.drop a).take n):=by
 apply ByteArray.ext
 rw [ByteArray.data_extract];unfold bs;simp only [List.extract_toArray,List.extract_eq_take_drop,Nat.add_sub_cancel_left]
theorem zhq(cb:Nat)(l:List UInt8)(hlen:l.length<=1000000):
 XE Fence.wide 2 prog 200 #[.pointer (some ⟨cb,0,none⟩)] (λx:Nat×Nat=> #[.int .i64 (x.1:Nat),.int .u32 (x.2:Nat)])
  (λ(k:Nat) x=>k<l.length / 4/\x.1=k/\x.2=yq ((l.drop (4*k)).take 4)) (λk _=>k+1) (λk=>k=l.length / 4)
  (λ_ W=>Blk W cb #[.string (bs l)] 9) 0:=by
 intro lp J Jx W hJ hJx hRd hY h0;have r0:=hRd _ _ _ h0;have e0:=r0.cell;have hF:Fence.wide.fn 200:=trivial;have hro:Fence.wide.round=none:=rfl;have hsz:=zC l;have hq:((l.length:Int)).tdiv 4=((l.length / 4:Nat):Int):=by rw [Int.tdiv_eq_ediv_of_nonneg (by omega)];omega
 obtain⟨m,hm⟩:∃m,l.length / 4=m:=⟨_,rfl⟩;rw [hm] at hq hY⊢;have hm4:4*m<=l.length:=by omega
 clear r0;replace hm:=G hm;refine callsIn_of_wp func200 rfl hF ?_ hro;simp only [ntmps200,R8,Nat.reduceAdd,Nat.reduceSub]
 gi_wp2
 gi_loopw [9] (λp wr=>∃(k:Nat)(X:Nat->Prop),p=.int .i64 (k:Int)/\k<=m/\J k X wr) (λp _=>m - (intOf p).toNat)
 case atStart=>exact⟨0,_,rfl,Nat.zero_le _,h0⟩
 case round=>
  obtain⟨k,X,rfl,hk,hJs⟩:=hrel;clear e0
  by_cases hlt:k<m
  ·have t2:decide ((k:Int)<(m:Int))=true:=by simpa using hlt
   have e1:=(hRd _ _ _ hJs).cell;have hx:=zfN l (4*k) 4;have hget:=λW=>xO ((l.drop (4*k)).take 4) (by rw [N7];omega) W
   have hl4:((l.drop (4*k)).take 4).length=4:=by rw [N7,U3];omega
   unfold zjC at hget;simp only [hl4,if_pos] at hget;have w3:IntKind.i64.wrap ((k:Int)+1)=(k:Int)+1:=by rw [N8];omega
   have hnx:=λW' hJ'=>hY k (k,yq ((l.drop (4*k)).take 4)) X W' hJ' ⟨hlt,rfl,rfl⟩
   generalize(l.drop (4*k)).take 4=wd at*
   obtain⟨p,hp⟩:∃p,4*k=p:=⟨_,rfl⟩;obtain⟨q,hqe⟩:∃q,p+4=q:=⟨_,rfl⟩;have w0:4*(k:Int)=(p:Int):=by omega
   have w1:IntKind.i64.wrap (p:Int)=(p:Int):=by rw [N8];omega
   have w2:IntKind.i64.wrap ((p:Int)+4)=(q:Int):=by rw [N8];omega
   have y0:(0:Int)<=(p:Int):=by omega
   have y1:(p:Int)<=(q:Int):=by omega
   have y2:(q:Int)<=(l.length:Int):=by omega
   rw [hp,hqe] at hx;replace hp:=G hp;replace hqe:=G hqe;replace hnx:=G hnx;replace hget:=G hget;replace hl4:=G hl4
   gi_wp2_with fail
   refine(callsIn_wide.2 (hget.out _)).mono ?_;rintro e w1⟨rfl,hb1⟩;have hJ1:J k X w1:=hJ _ _ _ _ _ hJs (Mod.of_below X hb1) (λk h=>.inl h);obtain⟨fn,tmps,assign,body,hy,hR⟩:=hnx.out w1 hJ1;clear e1
   gi_wp2
   refine hR.mono ?_;rintro e W'(⟨rfl,hJ', -⟩|⟨rfl,hx'⟩)
   ·clear hR hy
    gi_wp2
    go_roundw
    case rel=>exact⟨k+1,_,by go_num,by omega,hJ'⟩
    case measure=>simp [intOf];omega
   ·gi_wp2
    refine bodyPost_ret (results_none rfl _ _ _) rfl ?_;exact⟨⟨_,rfl⟩,.inr ⟨_,hx'⟩⟩
  ·obtain rfl:k=m:=by omega
   have t2:decide ((k:Int)<(k:Int))=false:=by simp
   gi_wp2
   go_end0
   exact⟨⟨_,rfl⟩,.inl ⟨k,X,rfl,hJs⟩⟩
