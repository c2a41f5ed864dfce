/- PARTS OF THE PROOF. -/
import Derived.Deep.RegionHeld
import Derived.OpenShut
import Derived.HandedShaped
import Derived.Deep.DeepHandedRow
import Derived.Deep.DeepWitnessRowRef
import Derived.Stop.LaidErr
import Derived.Lib.SmallJoins
import Derived.Lib.AppendStr
import Derived.Laws.MakeOwn
import Derived.Test.YtofppfoioodblaaGreatDoorCards
import Derived.Test.YtofppfoioodblaaGreatDoorTie
import Derived.Test.YtofppfoioodblaaGreatDoorDA02
import Derived.Test.YtofppfoioodblaaGreatDoorDA03
set_option maxRecDepth 8000
set_option maxHeartbeats 4000000
open Go.Proofs.Tryz
namespace Go.Proofs.YtofppfoioodblaaGreatDoor
section
open Go Go.RowKit
variable {P:Program}{ops:Array Oper}{S:World->Prop}{Q:Exit->Act->World->Prop}
def jg(Q:Exit->Act->World->Prop):Exit->Act->World->Prop
 | .normal,a,w=>Q .normal a w
 |_,_,_=>False
theorem jg.imp {Q:Exit->Act->World->Prop} :∀(e:Exit)(a:Act)(w:World),jg Q e a w->Q e a w:=λe a w h=>by
 cases e<;>first|exact h|exact h.elim
def JE(ops:Array Oper)(listed:Array Bool):Prop:=∀j oj,ops[j]?=some oj->listed.getD j false=true->∀e∈oj.after,Region.binds .any e=true->listed.getD e.on false=true
theorem JE.set {listed:Array Bool}{i:Nat}(h:JE ops listed)(hi:i∈Region.ready .any ops listed):JE ops (listed.setIfInBounds i true):=by
 intro j oj hj hl e he hb
 by_cases hji:i=j
 ·subst hji
  obtain⟨_,o,ho,aa⟩:=mem_ready.1 hi;rw [hj] at ho;cases ho
  exact getD_set_true (aa e he hb)
 exact getD_set_true (h j oj hj (by rwa [getD_set_ne false hji] at hl) e he hb)
def zl1(ops:Array Oper)(f:Nat):List Nat:=
 (List.range ops.size).reverse.foldl (λm k=>if m.contains k then m++((ops[k]?.map λo=>(o.after.toList.filter (Region.binds .any)).map (·.on)).getD [])else m) [f]
theorem zhy {f:Nat}{listed:Array Bool}(hc:JE ops listed)(hf:listed.getD f false=true):∀i∈zl1 ops f,listed.getD i false=true:=by
 unfold zl1
 generalize(List.range ops.size).reverse=l
 suffices H:∀(l m:List Nat),(∀i∈m,listed.getD i false=true)->∀i∈l.foldl (λm k=>if m.contains k then m++((ops[k]?.map λo=>(o.after.toList.filter (Region.binds .any)).map (·.on)).getD [])else m) m,listed.getD i false=true by
  exact H l [f] (by simpa using hf)
 intro l
 induction l with
 |nil=>intro m h;simpa using h
 |cons k l ih=>
  intro m h;rw [List.foldl_cons];refine ih _ ?_
  split
  ·rename_i hk
   intro i hi
   rcases List.mem_append.1 hi with hi|hi
   ·exact h i hi
   cases ho:ops[k]? with
   |none=>rw [ho] at hi;simp at hi
   |some o=>
    rw [ho] at hi;simp only [Option.map_some,Option.getD_some,List.mem_map,List.mem_filter] at hi;obtain⟨e,⟨he,hb⟩,rfl⟩:=hi;exact hc k o ho (h k (by simpa using hk)) e (by simpa using he) hb
  exact h
def JL(brk:Option Nat)(listed:Array Bool):Prop:=∀f,brk=some f->listed.getD f true=false
def yz(P:Program)(ops:Array Oper)(Q:Exit->Act->World->Prop)(S:World->Prop)(brk:Option Nat):Nat->Array Bool->Act->World->Prop
 |0,listed,a,w=>Region.ready .any ops listed=[] /\Q .normal a w
 |fuel+1,listed,a,w=>
  (Region.ready .any ops listed=[] ->Q .normal a w)/\
  ∀i∈Region.ready .any ops listed,wpOp P ops Q i (λa' w'=>(JL brk (listed.setIfInBounds i true)->S w')/\yz P ops Q S brk fuel (listed.setIfInBounds i true) a' w') a w
theorem qL {brk:Option Nat} :∀(fuel:Nat)(listed:Array Bool)(a:Act)(w:World),yz P ops Q S brk fuel listed a w->wpAny P .any ops Q fuel listed a w
 |0,_,_,_,h=>h
 |fuel+1,_,_,_,h=>⟨h.1,λi hi=>wpOp_mono (λa' w' h'=>qL fuel _ a' w' h'.2) (h.2 i hi)⟩
theorem ZQ {brk:Option Nat}{i:Nat}{oi:Oper}{v:Value}(hi:ops[i]?=some oi)(hsel:∀(j:Nat)(o:Oper) cs b,ops[j]?=some o->o.op≠ .select cs b)
 (hQ:∀c a w,Q (.panic c) (a.put oi.dst v) w->Q (.panic c) a w) (hb:∀f,brk=some f->i∈zl1 ops f/\i≠f):
 ∀(fuel:Nat)(listed:Array Bool)(a:Act)(w:World),JE ops listed->JL brk listed->
  (∀j oj,ops[j]?=some oj->j≠i->listed.getD j true=false->(∀e∈oj.after,Region.binds .any e=true->e.on≠i)->oi.apart ops oj=true)->
  i∈Region.ready .any ops listed->YieldsIf P ops S oi v a->S w->
  yz P ops Q S brk fuel (listed.setIfInBounds i true) (a.put oi.dst v) w->yz P ops Q S brk (fuel+1) listed a w:=by
 intro fuel
 induction fuel with
 |zero=>
  intro listed a w _ _ _ hr hy hS H;refine⟨λh=>(by rw [h] at hr;cases hr),λj hj=>?_⟩
  by_cases hji:j=i
  ·subst hji;exact hy.wpOp hi hS ⟨λ_=>hS,H⟩
  have:=ready_mono hj hji
  rw [H.1] at this
  cases this
 |succ fuel ih=>
  intro listed a w hcl has hfree hr hy hS H;refine⟨λh=>(by rw [h] at hr;cases hr),λj hj=>?_⟩
  by_cases hji:j=i
  ·subst hji;exact hy.wpOp hi hS ⟨λ_=>hS,H⟩
  have h1:=H.2 j (ready_mono hj hji)
  obtain⟨ab,oj,ae,ag⟩:=mem_ready.1 hj;have ai:=(mem_ready.1 hr).1
  have ah:listed.getD i false=false:=by
   rcases Nat.lt_or_ge i listed.size with h'|h'
   ·simp [h'] at ai⊢;exact ai
   simp [Array.getElem?_eq_none h']
  have af:∀e∈oj.after,Region.binds .any e=true->e.on≠i:=λe he hb heq=>by
   have h1:=ag e he hb;rw [heq,ah] at h1
   cases h1
  have ak:∀f,brk=some f->j≠f:=λf hf e=>by
   subst e;have aj:=hcl.set hj
   have al:(listed.setIfInBounds j true).getD j false=true:=by
    have:j<listed.size:=by
     rcases Nat.lt_or_ge j listed.size with h'|h'
     ·exact h'
     simp [Array.getElem?_eq_none h'] at ab
    simp [this]
   have:=zhy aj al i (hb j hf).1;rw [getD_set_ne false hji,ah] at this
   cases this
  have ac:JL brk (listed.setIfInBounds j true):=λf hf=>by rw [getD_set_ne true (ak f hf)];exact has f hf
  have h2:=wpOp_putIf ae (hfree j oj ae hji ab af) (λcs b=>hsel i oi cs b hi) (λcs b=>hsel j oj cs b ae) hQ hy h1
  have aa:∀k ok,ops[k]?=some ok->k≠i->(listed.setIfInBounds j true).getD k true=false->
   (∀e∈ok.after,Region.binds .any e=true->e.on≠i)->oi.apart ops ok=true:=λk ok hk hki hun hno=>by
   refine hfree k ok hk hki ?_ hno
   by_cases hjk:j=k
   ·subst hjk;exact ab
   rw [getD_set_ne true hjk] at hun;exact hun
  have ad:JL brk ((listed.setIfInBounds i true).setIfInBounds j true):=λf hf=>by
   rw [Array.setIfInBounds_comm _ _ (Ne.symm hji),getD_set_ne true (Ne.symm (hb f hf).2.symm)];exact ac f hf
  refine wpOp_mono (λa' w' h3=>⟨λ_=>h3.2.1 ad,ih (listed.setIfInBounds j true) a' w' (hcl.set hj) ac aa (ready_mono hr (Ne.symm hji)) h3.1 (h3.2.1 ad) ?_⟩) h2;rw [Array.setIfInBounds_comm _ _ hji];exact h3.2.2
def Vx(ops:Array Oper)(brk:Option Nat):List (Nat×Bool)->Array Bool->Bool
 | [],listed=>(Region.ready .any ops listed).isEmpty
 |(i,true)::r,listed=>(match brk with|none=>true|some f=> !listed.getD f true &&(zl1 ops f).contains i && i !=f)&&(Region.ready .any ops listed).contains i && Region.free .any ops listed i && Vx ops brk r (listed.setIfInBounds i true)
 |(i,false)::r,listed=>decide (Region.ready .any ops listed=[i])&& Vx ops brk r (listed.setIfInBounds i true)
def xj(P:Program)(ops:Array Oper)(S:World->Prop)(brk:Option Nat)(Q:Exit->Act->World->Prop):List (Nat×Bool)->Act->World->Prop
 | [],a,w=>Q .normal a w
 |(i,true)::r,a,w=>∃o v,ops[i]?=some o/\YieldsIf P ops S o v a/\xj P ops S brk Q r (a.put o.dst v) w
 |(i,false)::r,a,w=>wpOp P ops (λ_ _ _=>False) i (λa' w'=>(brk≠some i->S w')/\xj P ops S brk Q r a' w') a w
theorem xl {i:Nat}{K:Act->World->Prop}{a:Act}{w:World}(h:wpOp P ops (λ_ _ _=>False) i K a w):wpOp P ops Q i K a w:=by
 unfold wpOp at*
 cases ho:ops[i]? with
 |none=>rw [ho] at h;exact h
 |some o=>
  rw [ho] at h;simp only at h⊢
  split
  ·rename_i hw
   rw [if_pos hw] at h
   rcases h with h|⟨_,h⟩
   ·refine .inl ?_
    unfold Oper.wp at*
    generalize(execOp a.eval o).run P w=r at*
    cases r with
    |ok n w'=>
     cases n<;>simp only [Oper.upon] at h⊢<;>
      first
       |exact h
       |exact Calls.mono h (λe w'' he=>by cases e<;>first|exact he|exact he.elim|(obtain⟨_,_,h0⟩:=he;exact h0.elim))
    |halt x w'=>cases x<;>simp only [Oper.upon] at h⊢<;>first|exact h|exact h.elim
   obtain⟨_,_,h⟩:=h;exact h.elim
  rename_i hw
  rw [if_neg hw] at h;exact h
theorem qv {brk:Option Nat}(hsel:Region.noSelect ops=true):∀(l:List (Nat×Bool)) (listed:Array Bool) (a:Act) (w:World),Vx ops brk l listed=true->JE ops listed->(JL brk listed->S w)->
 xj P ops S brk Q l a w->yz P ops (jg Q) S brk l.length listed a w
 | [],listed,a,w,hB,hc,hS,h=>⟨by simpa [Vx] using hB,h⟩
 |(i,true)::l,listed,a,w,hB,hc,hS,h=>by
  simp only [Vx,Bool.and_eq_true] at hB;obtain⟨⟨⟨hk,hr⟩,hf⟩,hB⟩:=hB;have hr':i∈Region.ready .any ops listed:=by simpa using hr
  have aa:JL brk listed:=λf hf=>by subst hf;simp at hk;simpa using hk.1.1
  obtain⟨o,v,ho,hy,h⟩:=h
  refine ZQ ho (Region.noSelect_spec hsel) (λ_ _ _ h=>h) (λf hf=>(by subst hf;simp at hk;exact⟨hk.1.2,hk.2⟩)) _ listed a w hc aa (Region.free_spec ho hf) hr' hy (hS aa)
   (qv hsel l _ _ w hB (hc.set hr') (λ_=>hS aa) h)
 |(i,false)::l,listed,a,w,hB,hc,hS,h=>by
  simp only [Vx,Bool.and_eq_true,decide_eq_true_eq] at hB;obtain⟨hr,hB⟩:=hB;refine⟨λh0=>(by rw [h0] at hr;cases hr),λj hj=>?_⟩;have ac:j=i:=by rw [hr] at hj;simpa using hj
  subst ac
  have ad:j<listed.size:=by
   rcases Nat.lt_or_ge j listed.size with h'|h'
   ·exact h'
   have:=(mem_ready.1 hj).1;simp [Array.getElem?_eq_none h'] at this
  refine wpOp_mono (λa' w' ⟨h1,h2⟩=>?_) (xl h);have ab:JL brk (listed.setIfInBounds j true)->S w':=λaa=>h1 (λe=>by have:=aa j e;simp [ad] at this)
  exact⟨ab,qv hsel l _ a' w' hB (hc.set hj) ab h2⟩
theorem Zb(l:List Oper):JE l.toArray (Array.replicate l.length false):=λj oj hj hl=>by
 rw [getD_replicate_false] at hl;cases hl
theorem zd {id:Nat}{a:Act}{w:World}{l:List Oper}(sch:List (Nat×Bool))(brk:Option Nat)(S:World->Prop)(hm:P.follows .mixedOrders=true)
 (hB:(Region.noSelect l.toArray && decide (sch.length=l.length)&& Vx l.toArray brk sch (Array.replicate l.length false))=true) (hS:S w.drew)
 (h:xj P l.toArray S brk Q sch a w.drew):(Code.region id l.toArray true).wp P Q a w:=by
 simp only [Bool.and_eq_true,decide_eq_true_eq] at hB;obtain⟨⟨h1,h2⟩,h3⟩:=hB;have H:=qv h1 sch _ a w.drew h3 (Zb l) (λ_=>hS) h;rw [h2] at H;exact wp_mono (wp_region_any (Q:=jg Q) hm (by simpa using qL _ _ _ _ H)) (λe a w h=>jg.imp e a w h)
theorem jI {id k r:Nat}{a:Act}{w:World}{l:List Oper}(sch:List (Nat×Bool))(brk:Option Nat)(S:World->Prop)(hm:P.follows .mixedOrders=true)
 (hB:(Xg l && Region.noSelect l.toArray && decide (sch.length=l.length)&& Vx l.toArray brk sch (Array.replicate l.length false))=true) (hS:S w.drew)
 (h:xj P l.toArray S brk Q sch a w.drew):(Code.region id l.toArray true).wpIn (Fence.wide.inRound r) k P Q a w:=by
 simp only [Bool.and_eq_true,decide_eq_true_eq] at hB;obtain⟨⟨⟨h0,h1⟩,h2⟩,h3⟩:=hB;have H:=qv h1 sch _ a w.drew h3 (Zb l) (λ_=>hS) h;rw [h2] at H;refine wpIn_mono (wpIn_region_any (Q:=jg Q) hm (ZP r k h0 (λ⟨_,_,h⟩=>h) _ _ _ _ (by simpa using qL _ _ _ _ H))) (λe a w h=>jg.imp e a w h)
variable {brk:Option Nat}
theorem zg {a:Act}{w:World}(h:Q .normal a w):xj P ops S brk Q [] a w:=h
theorem za {i:Nat}{r:List (Nat×Bool)}{o:Oper}{a:Act}{w:World}{v:Value}(ho:ops[i]?=some o)(hg:Region.wanted o (yielded ops a.tmps)=true)
 (h1:∀w',S w'->(execOp a.eval o).run P w'=.ok (.value v) w') (h2:∀K:Act->Prop,(∀a',xj P ops S brk Q r a' w->K a')->K (a.put o.dst v)):xj P ops S brk Q ((i,true)::r) a w:=
 ⟨o,v,ho,.inl ⟨hg,h1⟩,h2 _ (λ_ h=>h)⟩
theorem Wb {R G:Prop} (k:R) (t:R->G:=by intro kk;(repeat (refine za (v:=?_) rfl rfl (λw' h=>?_) (λK k=>?_);rotate_left;obtain⟨f1,f2,_⟩:=h;have e1:=f1.cell;have e2:=f2.cell;go_simp;(try with_reducible rfl);go_simp;refine k _ ?_;clear k K));exact kk):G:=t k
theorem Wd {R G:Prop} (k:R) (t:R->G:=by intro kk;(repeat (refine za (v:=?_) rfl rfl (λw' h=>?_) (λK k=>?_);rotate_left;obtain⟨f1,_⟩:=h;have e1:=f1.cell;go_simp;(try with_reducible rfl);go_simp;refine k _ ?_;clear k K));exact kk):G:=t k
theorem We {R G:Prop} (k:R) (t:R->G:=by intro kk;(repeat (refine za (v:=?_) rfl rfl (λw' h=>?_) (λK k=>?_);rotate_left;obtain⟨f1,f2,f3,_⟩:=h;(try have e1:=f1.cell);(try have e2:=f2.cell);(try have e3:=f3.cell);go_simp;(try with_reducible rfl);go_simp;refine k _ ?_;clear k K));exact kk):G:=t k
theorem Wg {R G:Prop} (k:R) (t:R->G:=by intro kk;(repeat (refine za (v:=?_) rfl rfl (λw' h=>?_) (λK k=>?_);rotate_left;obtain⟨f1,f2,f3,_⟩:=h;have e2:=f2.cell;have e3:=f3.cell;go_simp;(try with_reducible rfl);go_simp;refine k _ ?_;clear k K));exact kk):G:=t k
theorem Wh {R G:Prop} (k:R) (t:R->G:=by intro kk;(repeat (refine za (v:=?_) rfl rfl (λw' h=>?_) (λK k=>?_);rotate_left;obtain⟨f1,f2,f3,f4,f5,_⟩:=h;(try have e1:=f1.cell);(try have e2:=f2.cell);(try have e3:=f3.cell);(try have e4:=f4.cell);(try have e5:=f5.cell);go_simp;(try with_reducible rfl);go_simp;refine k _ ?_;clear k K));exact kk):G:=t k
theorem Wi {R G:Prop} (k:R) (t:R->G:=by intro kk;(repeat (refine za (v:=?_) rfl rfl (λw' h=>?_) (λK k=>?_);rotate_left;obtain⟨f1,f2,f3,_⟩:=h;have e1:=f1.cell;have e2:=f2.cell;(try have e3:=f3.cell);go_simp;(try with_reducible rfl);go_simp;refine k _ ?_;clear k K));exact kk):G:=t k
theorem Wk {R G:Prop} (k:R) (t:R->G:=by intro kk;(repeat (refine za (v:=?_) rfl rfl (λw' h=>?_) (λK k=>?_);rotate_left;obtain⟨f1,_⟩:=h;go_simp;(try with_reducible rfl);go_simp;refine k _ ?_;clear k K));exact kk):G:=t k
theorem Wl {R G:Prop} (k:R) (t:R->G:=by intro kk;(repeat (refine za (v:=?_) rfl rfl (λw' h=>?_) (λK k=>?_);rotate_left;obtain⟨f1,f2,f3,_⟩:=h;have e1:=f1.cell;have e2:=f2.cell;have e3:=f3.cell;go_simp;(try with_reducible rfl);go_simp;refine k _ ?_;clear k K));exact kk):G:=t k
theorem Wn {R G:Prop} (k:R) (t:R->G:=by intro kk;(repeat (refine za (v:=?_) rfl rfl (λw' h=>?_) (λK k=>?_);rotate_left;obtain⟨f1,f2,_⟩:=h;have e1:=f1.cell;go_simp;(try with_reducible rfl);go_simp;refine k _ ?_;clear k K));exact kk):G:=t k
theorem Wo {R G:Prop} (k:R) (t:R->G:=by intro kk;(repeat (refine za (v:=?_) rfl rfl (λw' h=>?_) (λK k=>?_);rotate_left;obtain⟨f1,f2,f3,f4,_⟩:=h;have e1:=f1.cell;go_simp;(try with_reducible rfl);go_simp;refine k _ ?_;clear k K));exact kk):G:=t k
theorem Wq {R G:Prop} (k:R) (t:R->G:=by intro kk;(repeat (refine za (v:=?_) rfl rfl (λw' h=>?_) (λK k=>?_);rotate_left;obtain⟨f1,f2,f3,f4,_⟩:=h;(try have e1:=f1.cell);(try have e2:=f2.cell);(try have e3:=f3.cell);(try have e4:=f4.cell);go_simp;(try with_reducible rfl);go_simp;refine k _ ?_;clear k K));exact kk):G:=t k
theorem Wt {R G:Prop} (k:R) (t:R->G:=by intro kk;(repeat (refine za (v:=?_) rfl rfl (λw' h=>?_) (λK k=>?_);rotate_left;obtain⟨f1,f2,_⟩:=h;(try have e1:=f1.cell);(try have e2:=f2.cell);go_simp;(try with_reducible rfl);go_simp;refine k _ ?_;clear k K));exact kk):G:=t k
theorem Wu {R G:Prop} (k:R) (t:R->G:=by intro kk;(repeat (refine za (v:=?_) rfl rfl (λw' h=>?_) (λK k=>?_);rotate_left;obtain⟨f1,f2,f3,_⟩:=h;have e3:=f3.cell;go_simp;(try with_reducible rfl);go_simp;refine k _ ?_;clear k K));exact kk):G:=t k
theorem Wv {R G:Prop} (k:R) (t:R->G:=by intro kk;(repeat (refine za (v:=?_) rfl rfl (λw' h=>?_) (λK k=>?_);rotate_left;obtain⟨f1,f2,f3,f4,_⟩:=h;go_simp;(try with_reducible rfl);go_simp;refine k _ ?_;clear k K));exact kk):G:=t k
theorem Ww {R G:Prop} (k:R) (t:R->G:=by intro kk;(repeat (refine za (v:=?_) rfl rfl (λw' h=>?_) (λK k=>?_);rotate_left;obtain⟨f1,f2,f3,_⟩:=h;have e2:=f2.cell;(try have e3:=f3.cell);go_simp;(try with_reducible rfl);go_simp;refine k _ ?_;clear k K));exact kk):G:=t k
theorem jT {i:Nat}{r:List (Nat×Bool)}{o:Oper}{a:Act}{w:World}(ho:ops[i]?=some o)(hg:Region.wanted o (yielded ops a.tmps)=false)
 (h2:∀K:Act->Prop,(∀a',xj P ops S brk Q r a' w->K a')->K (a.put o.dst undef)):xj P ops S brk Q ((i,true)::r) a w:=
 ⟨o,undef,ho,.inr ⟨hg,rfl⟩,h2 _ (λ_ h=>h)⟩
theorem Wm {R G:Prop} (k:R) (t:R->G:=by intro kk;(repeat (refine jT rfl rfl (λK hK=>?_);go_simp;refine hK _ ?_;clear hK K));exact kk):G:=t k
theorem zc {i:Nat}{r:List (Nat×Bool)}{o:Oper}{a:Act}{w:World}(ho:ops[i]?=some o)
 (h:∀K:Act->World->Prop,Shut (∀a' w',(brk≠some i->S w')->xj P ops S brk Q r a' w'->K a' w')->wpList P ops (Exit.then K (λ_ _ _=>False)) [o] a w):xj P ops S brk Q ((i,false)::r) a w:=by
 have H:=h (λa' w'=>(brk≠some i->S w')/\xj P ops S brk Q r a' w') (λa' w' h1 h2=>⟨h1,h2⟩)
 show wpOp P ops _ i _ a w
 unfold wpOp;rw [ho];unfold wpList at H;simp only
 split
 ·rename_i hw
  rw [if_pos hw] at H
  rcases H with H|⟨_,_,_,H⟩
  ·refine .inl ?_
   unfold Oper.wp at*
   generalize(execOp a.eval o).run P w=x at*
   cases x with
   |ok n w'=>
    cases n<;>simp only [Oper.upon] at H⊢<;>
     first
      |exact H
      |exact Calls.mono H (λe w'' he=>by cases e<;>first|exact he|exact he.elim|(obtain⟨_,_,h0⟩:=he;exact h0.elim))
      |exact Rows.mono H (λ_ _ he=>he)
   |halt x w'=>cases x<;>simp only [Oper.upon] at H⊢<;>first|exact H|exact H.elim
  exact H.elim
 rename_i hw
 rw [if_neg hw] at H;exact H
end
section
open Go Go.RowKit Go.Shelf Go.Extern.Stop Go.Stop Go.Extern
attribute [local go_sem] Oper.semAt_some zB zo
theorem QX(v:Value)(hv:∃a n c,v=.slice a n c)(w:World):Calls prog 133 #[v] w λe w'=>
 e=.returned (.func (.func 174) #[] #[.pointer (some ⟨w.heap.size,0,none⟩)])/\w'=w.alloc (.cells #[v] 42):=by
 obtain⟨a,n,c,rfl⟩:=hv
 go_enter func133,ntmps133
 go_wp2;go_ret
 exact⟨rfl,rfl⟩
theorem Jf(l:List zx)(k:Nat)(x:zx)(h:l[k]?=some x)(j:Nat)(hj:j<3):(l.flatMap zh)[k*3+j]?=(zh x)[j]?:=by
 induction l generalizing k with
 |nil=>simp at h
 |cons y l ih=>
  cases k with
  |zero=>
   simp at h;subst h
   rw [List.flatMap_cons,Nat.zero_mul,Nat.zero_add,U8 (by simp [zh];omega)]
  |succ k=>
   simp at h
   have:=ih k h;rw [List.flatMap_cons,U6 (by simp [zh];omega)];rw [← this]
   congr 1
   simp [zh];omega
theorem Xh(cb:Nat)(v:Value)(l:List zx)(hlen:l.length<=1073741824):
 zaF Fence.wide 2 prog 174 #[.pointer (some ⟨cb,0,none⟩)] (λx:zx=> #[vO x])
  (λ(k:Nat) x=>l[k]?=some x) (λk _=>k+1) (λk=>k=l.length)
  (λ_ W=>Blk W cb #[v] 42/\Src W v 3 l.length (l.flatMap zh)) 0:=by
 intro lp J Jx W hJ hJx hRd hY h0;obtain⟨r0,r1⟩:=hRd _ _ _ h0;have e0:=r0.cell;have hF:Fence.wide.fn 174:=trivial;have ad:Fence.wide.round=none:=rfl
 rcases r1.2 with⟨rfl,hn⟩|⟨b,off,cap,rfl,hc, -⟩
 ·obtain rfl:l=[]:=N9 hn
  clear r0 r1;refine callsIn_of_wp func174 rfl hF ?_ ad;simp only [ntmps174,R8,Nat.reduceAdd,Nat.reduceSub]
  gi_wp2
  gi_loopw [7] (λp wr=>p=.int .i64 0/\wr=W) (λp _=>0)
  case atStart=>exact⟨rfl,rfl⟩
  case round=>
   obtain⟨rfl,rfl⟩:=hrel
   gi_wp2
   go_end0
   exact⟨⟨_,rfl⟩,.inl ⟨0,_,rfl,h0⟩⟩
 clear r0 r1
 refine callsIn_of_wp func174 rfl hF ?_ ad;simp only [ntmps174,R8,Nat.reduceAdd,Nat.reduceSub]
 gi_wp2
 gi_loopw [7] (λp wr=>∃(k:Nat)(X:Nat->Prop),p=.int .i64 (k:Int)/\k<=l.length/\J k X wr) (λp _=>l.length - (intOf p).toNat)
 case atStart=>exact⟨0,_,rfl,Nat.zero_le _,h0⟩
 case round=>
  obtain⟨k,X,rfl,hk,ab⟩:=hrel;clear e0
  by_cases hlt:k<l.length
  ·obtain⟨x,hx⟩:∃x,l[k]?=some x:=⟨_,N3 hlt⟩
   obtain⟨-,r1⟩:=hRd _ _ _ ab
   rcases r1.2 with⟨h, -⟩|⟨b',off',cap',h, -,hr⟩
   ·cases h
   cases h
   have aa:∀j,j<3->wr.cell? ⟨b,off+(k*3+j),none⟩=(zh x)[j]?:=λj hj=>by
    have h1:=Jf l k x hx j hj
    cases hu:(zh x)[j]? with
    |none=>simp [zh] at hu;omega
    |some u=>exact hr _ u (h1.trans hu)
   have c0:wr.cell? ⟨b,off+k*3,none⟩=(zh x)[0]?:=aa 0 (by omega);have c1:wr.cell? ⟨b,off+k*3+1,none⟩=(zh x)[1]?:=aa 1 (by omega);have c2:wr.cell? ⟨b,off+k*3+2,none⟩=(zh x)[2]?:=aa 2 (by omega);have ac:=hY k x _ _ (hJ.alloc (.cells (zh x).toArray 78) ab) hx;obtain⟨⟨i,c⟩,d⟩:=x;simp only [zh] at c0 c1 c2 ac;simp only [List.getElem?_cons_zero,List.getElem?_cons_succ] at c0 c1 c2;clear aa hr r1;obtain⟨fn,tmps,assign,body,hy,hR⟩:=ac;unfold vO at hy
   gi_wp2
   refine hR.mono ?_;rintro e W'(⟨rfl,af, -⟩|⟨rfl,ae⟩)
   ·clear c0 c1 c2 hR hy
    gi_wp2
    go_roundw
    case rel=>exact⟨k+1,_,by go_num,by omega,af⟩
    case measure=>simp [intOf];omega
   gi_wp2
   refine bodyPost_ret (results_none rfl _ _ _) rfl ?_;exact⟨⟨_,rfl⟩,.inr ⟨_,ae⟩⟩
  obtain rfl:k=l.length:=by omega
  gi_wp2
  go_end0
  exact⟨⟨_,rfl⟩,.inl ⟨l.length,X,rfl,ab⟩⟩
theorem zfI(v:Value)(hv:∃a n c,v=.slice a n c)(w:World):Calls prog 278 #[v] w λe w'=>
 e=.returned (.func (.func 322) #[] #[.pointer (some ⟨w.heap.size,0,none⟩)])/\w'=w.alloc (.cells #[v] 217):=by
 obtain⟨a,n,c,rfl⟩:=hv
 go_enter func278,ntmps278
 go_wp2;go_ret
 exact⟨rfl,rfl⟩
theorem Jg(l:List ZJ)(k:Nat)(x:ZJ)(h:l[k]?=some x)(j:Nat)(hj:j<3):(l.flatMap zX)[k*3+j]?=(zX x)[j]?:=by
 induction l generalizing k with
 |nil=>simp at h
 |cons y l ih=>
  cases k with
  |zero=>
   simp at h;subst h
   rw [List.flatMap_cons,Nat.zero_mul,Nat.zero_add,U8 (by simp [zX];omega)]
  |succ k=>
   simp at h
   have:=ih k h;rw [List.flatMap_cons,U6 (by simp [zX];omega)];rw [← this]
   congr 1
   simp [zX];omega
theorem Xi(cb:Nat)(v:Value)(l:List ZJ)(hlen:l.length<=1073741824):
 zaF Fence.wide 2 prog 322 #[.pointer (some ⟨cb,0,none⟩)] (λx:ZJ=> #[Yh x])
  (λ(k:Nat) x=>l[k]?=some x) (λk _=>k+1) (λk=>k=l.length)
  (λ_ W=>Blk W cb #[v] 217/\Src W v 3 l.length (l.flatMap zX)) 0:=by
 intro lp J Jx W hJ hJx hRd hY h0;obtain⟨r0,r1⟩:=hRd _ _ _ h0;have e0:=r0.cell;have hF:Fence.wide.fn 322:=trivial;have ad:Fence.wide.round=none:=rfl
 rcases r1.2 with⟨rfl,hn⟩|⟨b,off,cap,rfl,hc, -⟩
 ·obtain rfl:l=[]:=N9 hn
  clear r0 r1;refine callsIn_of_wp func322 rfl hF ?_ ad;simp only [ntmps322,R8,Nat.reduceAdd,Nat.reduceSub]
  gi_wp2
  gi_loopw [7] (λp wr=>p=.int .i64 0/\wr=W) (λp _=>0)
  case atStart=>exact⟨rfl,rfl⟩
  case round=>
   obtain⟨rfl,rfl⟩:=hrel
   gi_wp2
   go_end0
   exact⟨⟨_,rfl⟩,.inl ⟨0,_,rfl,h0⟩⟩
 clear r0 r1
 refine callsIn_of_wp func322 rfl hF ?_ ad;simp only [ntmps322,R8,Nat.reduceAdd,Nat.reduceSub]
 gi_wp2
 gi_loopw [7] (λp wr=>∃(k:Nat)(X:Nat->Prop),p=.int .i64 (k:Int)/\k<=l.length/\J k X wr) (λp _=>l.length - (intOf p).toNat)
 case atStart=>exact⟨0,_,rfl,Nat.zero_le _,h0⟩
 case round=>
  obtain⟨k,X,rfl,hk,ab⟩:=hrel;clear e0
  by_cases hlt:k<l.length
  ·obtain⟨x,hx⟩:∃x,l[k]?=some x:=⟨_,N3 hlt⟩
   obtain⟨-,r1⟩:=hRd _ _ _ ab
   rcases r1.2 with⟨h, -⟩|⟨b',off',cap',h, -,hr⟩
   ·cases h
   cases h
   have aa:∀j,j<3->wr.cell? ⟨b,off+(k*3+j),none⟩=(zX x)[j]?:=λj hj=>by
    have h1:=Jg l k x hx j hj
    cases hu:(zX x)[j]? with
    |none=>simp [zX] at hu;omega
    |some u=>exact hr _ u (h1.trans hu)
   have c0:wr.cell? ⟨b,off+k*3,none⟩=(zX x)[0]?:=aa 0 (by omega);have c1:wr.cell? ⟨b,off+k*3+1,none⟩=(zX x)[1]?:=aa 1 (by omega);have c2:wr.cell? ⟨b,off+k*3+2,none⟩=(zX x)[2]?:=aa 2 (by omega);have ac:=hY k x _ _ (hJ.alloc (.cells (zX x).toArray 197) ab) hx;obtain⟨ep,ve,st⟩:=x;simp only [zX] at c0 c1 c2 ac;simp only [List.getElem?_cons_zero,List.getElem?_cons_succ] at c0 c1 c2;clear aa hr r1;obtain⟨fn,tmps,assign,body,hy,hR⟩:=ac;unfold Yh at hy
   gi_wp2
   refine hR.mono ?_;rintro e W'(⟨rfl,af, -⟩|⟨rfl,ae⟩)
   ·clear c0 c1 c2 hR hy
    gi_wp2
    go_roundw
    case rel=>exact⟨k+1,_,by go_num,by omega,af⟩
    case measure=>simp [intOf];omega
   gi_wp2
   refine bodyPost_ret (results_none rfl _ _ _) rfl ?_;exact⟨⟨_,rfl⟩,.inr ⟨_,ae⟩⟩
  obtain rfl:k=l.length:=by omega
  gi_wp2
  go_end0
  exact⟨⟨_,rfl⟩,.inl ⟨l.length,X,rfl,ab⟩⟩
end
section
open Go Go.RowKit Go.Shelf Go.Extern.Stop Go.Stop Go.Extern
theorem zmb {a b:List UInt8} :((bs a).toList==(bs b).toList)=decide (a=b):=by
 rw [vq,vq]
 by_cases h:a=b
 ·simp [h]
 simp [h]
theorem zlf(a b:ZJ)(w:World):(binOp .neq 197 (Yh a) (Yh b)).run prog w=.ok (.bool (decide (a≠b))) w:=by
 obtain⟨i,c,d⟩:=a;obtain⟨i',c',d'⟩:=b;unfold Yh;rw [run_neq_struct];simp [go_sem]
 by_cases h1:i=i'<;>by_cases h2:c=c'<;>by_cases h3:d=d'<;>simp [h1,h2,h3] <;>omega
end
section
open Go Go.RowKit Go.Shelf Go.Extern.Stop Go.Stop Go.Extern
attribute [local go_sem] Oper.semAt_some zB zo
theorem Xj(s:List UInt8)(w:World):Calls prog 119 #[.string (bs s)] w λe w'=>e=.returned (.bool s.isEmpty)/\w'=w:=by
 have h:=vq s
 go_enter func119,ntmps119
 go_wp2;go_ret
 exact⟨rfl,rfl⟩
theorem zmM {s:List UInt8}{k:Nat}{b:UInt8}(hb:s[k]?=some b)(h):((bs s)[k]'h)=b:=by
 obtain⟨hl,rfl⟩:=N6.1 hb;rfl
def vu(f:Option (Nat×Nat×Nat)):Value:=match f with
 |some (n,k,d)=>.tuple #[.agg #[.int .i64 (n:Nat),.int .i64 (k:Nat),.int .i64 (d:Nat)],.bool true]
 |none=>.tuple #[.agg #[.int .i64 0,.int .i64 0,.int .i64 0],.bool false]
theorem QY(s:List UInt8)(w:World):Calls prog 121 #[.string (bs s)] w λe w'=>e=.returned (vu (zaK s))/\Below w.heap.size w w':=by
 have hb:=vq s;unfold zaK
 by_cases h1:s=[115,101,110,100]
 ·rw [if_pos h1]
  have t1:(s==[115,101,110,100])=true:=by simpa using h1
  clear h1
  go_enter func121,ntmps121
  go_wp2;refine bodyPost_ret (v:=vu _) (by unfold vu;simp [results,Tryz.results121,go_sem]) rfl ⟨rfl,?_⟩;exact pbx
 rw [if_neg h1];have t1:(s==[115,101,110,100])=false:=by simpa using h1
 clear h1
 by_cases h2:s=[112,114,111,112,111,115,101]
 ·rw [if_pos h2]
  have t2:(s==[112,114,111,112,111,115,101])=true:=by simpa using h2
  clear h2
  go_enter func121,ntmps121
  go_wp2;refine bodyPost_ret (v:=vu _) (by unfold vu;simp [results,Tryz.results121,go_sem]) rfl ⟨rfl,?_⟩;exact pbx
 rw [if_neg h2];have t2:(s==[112,114,111,112,111,115,101])=false:=by simpa using h2
 clear h2
 by_cases h3:s=[99,114,97,115,104]
 ·rw [if_pos h3]
  have t3:(s==[99,114,97,115,104])=true:=by simpa using h3
  clear h3
  go_enter func121,ntmps121
  go_wp2;refine bodyPost_ret (v:=vu _) (by unfold vu;simp [results,Tryz.results121,go_sem]) rfl ⟨rfl,?_⟩;exact pbx
 rw [if_neg h3];have t3:(s==[99,114,97,115,104])=false:=by simpa using h3
 clear h3
 by_cases h4:s=[114,101,115,116,97,114,116]
 ·rw [if_pos h4]
  have t4:(s==[114,101,115,116,97,114,116])=true:=by simpa using h4
  clear h4
  go_enter func121,ntmps121
  go_wp2;refine bodyPost_ret (v:=vu _) (by unfold vu;simp [results,Tryz.results121,go_sem]) rfl ⟨rfl,?_⟩;exact pbx
 rw [if_neg h4];have t4:(s==[114,101,115,116,97,114,116])=false:=by simpa using h4
 clear h4
 by_cases h5:s=[116,97,107,101]
 ·rw [if_pos h5]
  have t5:(s==[116,97,107,101])=true:=by simpa using h5
  clear h5
  go_enter func121,ntmps121
  go_wp2;refine bodyPost_ret (v:=vu _) (by unfold vu;simp [results,Tryz.results121,go_sem]) rfl ⟨rfl,?_⟩;exact pbx
 rw [if_neg h5];have t5:(s==[116,97,107,101])=false:=by simpa using h5
 clear h5
 by_cases h6:s=[100,114,111,112]
 ·rw [if_pos h6]
  have t6:(s==[100,114,111,112])=true:=by simpa using h6
  clear h6
  go_enter func121,ntmps121
  go_wp2;refine bodyPost_ret (v:=vu _) (by unfold vu;simp [results,Tryz.results121,go_sem]) rfl ⟨rfl,?_⟩;exact pbx
 rw [if_neg h6];have t6:(s==[100,114,111,112])=false:=by simpa using h6
 clear h6
 by_cases h7:s=[99,111,112,121]
 ·rw [if_pos h7]
  have t7:(s==[99,111,112,121])=true:=by simpa using h7
  clear h7
  go_enter func121,ntmps121
  go_wp2;refine bodyPost_ret (v:=vu _) (by unfold vu;simp [results,Tryz.results121,go_sem]) rfl ⟨rfl,?_⟩;exact pbx
 rw [if_neg h7];have t7:(s==[99,111,112,121])=false:=by simpa using h7
 clear h7
 by_cases h8:s=[99,117,116]
 ·rw [if_pos h8]
  have t8:(s==[99,117,116])=true:=by simpa using h8
  clear h8
  go_enter func121,ntmps121
  go_wp2;refine bodyPost_ret (v:=vu _) (by unfold vu;simp [results,Tryz.results121,go_sem]) rfl ⟨rfl,?_⟩;exact pbx
 rw [if_neg h8];have t8:(s==[99,117,116])=false:=by simpa using h8
 clear h8
 by_cases h9:s=[119,97,110,116]
 ·rw [if_pos h9]
  have t9:(s==[119,97,110,116])=true:=by simpa using h9
  clear h9
  go_enter func121,ntmps121
  go_wp2;refine bodyPost_ret (v:=vu _) (by unfold vu;simp [results,Tryz.results121,go_sem]) rfl ⟨rfl,?_⟩;exact pbx
 rw [if_neg h9];have t9:(s==[119,97,110,116])=false:=by simpa using h9
 clear h9
 by_cases h20:s=[102,97,105,114]
 ·rw [if_pos (.inl h20)]
  have aa:(s==[102,97,105,114])=true:=by simpa using h20
  clear h20
  go_enter func121,ntmps121
  go_wp2;refine bodyPost_ret (v:=vu _) (by unfold vu;simp [results,Tryz.results121,go_sem]) rfl ⟨rfl,?_⟩;exact pbx
 have aa:(s==[102,97,105,114])=false:=by simpa using h20
 by_cases h21:s=[108,111,103]
 ·rw [if_pos (.inr (.inl h21))]
  have ad:(s==[108,111,103])=true:=by simpa using h21
  clear h20 h21
  go_enter func121,ntmps121
  go_wp2;refine bodyPost_ret (v:=vu _) (by unfold vu;simp [results,Tryz.results121,go_sem]) rfl ⟨rfl,?_⟩;exact pbx
 have ad:(s==[108,111,103])=false:=by simpa using h21
 by_cases h22:s=[101,114,97,115]
 ·rw [if_pos (.inr (.inr h22))]
  have ab:(s==[101,114,97,115])=true:=by simpa using h22
  clear h20 h21 h22
  go_enter func121,ntmps121
  go_wp2;refine bodyPost_ret (v:=vu _) (by unfold vu;simp [results,Tryz.results121,go_sem]) rfl ⟨rfl,?_⟩;exact pbx
 have ab:(s==[101,114,97,115])=false:=by simpa using h22
 rw [if_neg (λe=>e.elim h20 (λe=>e.elim h21 h22))];clear h20 h21 h22
 by_cases h10:s=[102,108,121,105,110,103]
 ·rw [if_pos h10]
  have ac:(s==[102,108,121,105,110,103])=true:=by simpa using h10
  clear h10
  go_enter func121,ntmps121
  go_wp2;refine bodyPost_ret (v:=vu _) (by unfold vu;simp [results,Tryz.results121,go_sem]) rfl ⟨rfl,?_⟩;exact pbx
 rw [if_neg h10];have ac:(s==[102,108,121,105,110,103])=false:=by simpa using h10
 clear h10
 go_enter func121,ntmps121
 go_wp2;refine bodyPost_ret (v:=vu _) (by unfold vu;simp [results,Tryz.results121,go_sem]) rfl ⟨rfl,?_⟩;exact pbx
theorem zbU(s:List UInt8)(hl:s.length<=1000000)(w:World):Calls prog 122 #[.string (bs s)] w λe w'=>e=.returned (.bool (vQ s))/\w'=w:=by
 have hz:=zI s
 by_cases h1:s.length<1
 ·have t1:decide ((s.length:Int)<1)=true:=by simp;omega
  have hn:vQ s=false:=by unfold vQ;rw [decide_eq_false (by omega)];rfl
  rw [hn]
  go_enter func122,ntmps122
  go_wp2;go_ret
  exact⟨rfl,rfl⟩
 by_cases h2:9<s.length
 ·have t1:decide ((s.length:Int)<1)=false:=by simp;omega
  have t2:decide (9<(s.length:Int))=true:=by simp;omega
  have hn:vQ s=false:=by unfold vQ;rw [decide_eq_false (by omega)];rfl
  rw [hn]
  go_enter func122,ntmps122
  go_wp2;go_ret
  exact⟨rfl,rfl⟩
 have t1:decide ((s.length:Int)<1)=false:=by simp;omega
 have t2:decide (9<(s.length:Int))=false:=by simp;omega
 have hn:vQ s=s.all qt:=by unfold vQ;rw [decide_eq_true (by omega)];rfl
 rw [hn]
 go_enter func122,ntmps122
 go_wp2
 go_loopw [14] (λp14 wr=>∃k:Nat,p14=.int .i64 (k:Nat)/\k<=s.length/\wr=w/\(s.take k).all qt=true) (λp14 _=>s.length - (intOf p14).toNat)
 case atStart=>exact⟨0,rfl,Nat.zero_le _,rfl,rfl⟩
 case round=>
  obtain⟨k,rfl,hk,rfl,aa⟩:=hrel
  by_cases hlt:k<s.length
  ·have t3:decide ((k:Int)<(s.length:Int))=true:=by simpa using hlt
   obtain⟨b,hb⟩:∃b,s[k]?=some b:=⟨_,N3 hlt⟩;have ad:IntKind.i64.wrap ((k:Int)+1)=(k:Int)+1:=by rw [N8];omega
   have ab:(s.take (k+1)).all qt=((s.take k).all qt && qt b):=by rw [List.take_add_one,hb];simp
   have ac:∀h,((bs s)[k]'h).toNat=b.toNat:=λh=>by
    rw [zmM hb h]
   have y0:(0:Int)<=(k:Int):=by omega
   have y1:(k:Int)<(s.length:Int):=by omega
   by_cases d1:b.toNat<48
   ·have t4:decide ((b.toNat:Int)<48)=true:=by simp;omega
    have hd:qt b=false:=by unfold qt;simp;omega
    have hf:s.all qt=false:=List.all_eq_false.2 ⟨b,List.mem_of_getElem? hb,by rw [hd];simp⟩;replace hb:=hid hb;clear ab hd aa;go_wp2;go_ret
    exact⟨by rw [hf];rfl,rfl⟩
   have t4:decide ((b.toNat:Int)<48)=false:=by simp;omega
   by_cases d2:57<b.toNat
   ·have t5:decide (57<(b.toNat:Int))=true:=by simp;omega
    have hd:qt b=false:=by unfold qt;simp;omega
    have hf:s.all qt=false:=List.all_eq_false.2 ⟨b,List.mem_of_getElem? hb,by rw [hd];simp⟩;replace hb:=hid hb;clear ab hd aa;go_wp2;go_ret
    exact⟨by rw [hf];rfl,rfl⟩
   have t5:decide (57<(b.toNat:Int))=false:=by simp;omega
   have hd:qt b=true:=by unfold qt;simp;omega
   rw [aa,hd] at ab;replace hb:=hid hb;replace ab:=hid ab;clear aa hd;go_wp2
   go_roundw
   case rel=>exact⟨k+1,by simp,by omega,trivial,ab.out⟩
   case measure=>simp [intOf];omega
  obtain rfl:k=s.length:=by omega
  have t3:decide ((s.length:Int)<(s.length:Int))=false:=by simp
  rw [List.take_length] at aa;go_wp2;go_ret
  exact⟨by rw [aa];rfl,rfl⟩
def Zc(s:List UInt8):Value:=.string (bs s)
theorem zlg(x:ByteArray):bs x.data.toList=x:=by
 obtain⟨a⟩:=x;simp [bs]
def ZG(w:World):Prop:=∃m,w.cell? ⟨3,0,none⟩=some (.int .i64 m)
theorem ZG.below {w w':World}(h:ZG w)(hb:Below w.heap.size w w'):ZG w':=by
 obtain⟨m,hm⟩:=h;exact⟨m,(hb.cell (jx hm)).trans hm⟩
theorem zbV(c:UInt8)(s:List UInt8)(hs:s.length<4294967281)(w:World)(h:ZG w):Calls prog 117 #[.string (bs s),.string ⟨#[c]⟩] w λe w'=>
 e=.returned (.slice (some ⟨w.heap.size,0,none⟩) (jG c s).length (jG c s).length)/\w'=w.alloc (.cells ((jG c s).map Zc).toArray 9):=by
 obtain⟨m,hm⟩:=h;refine(Tryz.strings_Split (bs s) ⟨#[c]⟩ m w (by rw [zI];exact hs) hm (N0 1)).mono ?_;rintro e w'⟨he,hw⟩;have h1:=zhv (bs s) c;have h2:(bs s).data.toList=s:=by simp [bs]
 rw [h2] at h1;have h3:=Lib.splitB_all (⟨#[c]⟩:ByteArray) (N0 1) 0 (Lib.countB (bs s) ⟨#[c]⟩) (bs s) rfl;have h4:(jG c s).length=Lib.countB (bs s) ⟨#[c]⟩+1:=by rw [← h1,List.length_map,h3]
 rw [h4];refine⟨he,?_⟩;rw [hw,← h1,List.map_map]
 have h5:(Zc ∘ λx:ByteArray=>x.data.toList)=Value.string:=by
  funext x
  show Value.string (bs x.data.toList)=Value.string x
  rw [zlg]
 rw [h5]
theorem qH:∀args w,(callFunc 119 args).run prog w=.ok (.enter 119 args) w:=enters_of func119 (by kernel_rfl) rfl
theorem zbW(b:Nat)(ss:List (List UInt8))(hl:ss.length<=1000000)(w:World)(h:Blk w b (ss.map Zc).toArray 9):Calls prog 167 #[.slice (some ⟨b,0,none⟩) ss.length ss.length,.func (.func 119) #[] #[]] w λe w'=>
 ((ss.all (λs=> !s.isEmpty)=true/\e=.returned (.int .i64 (-1)))∨(∃k,ss[k]?=some [] /\(ss.take k).all (λs=> !s.isEmpty)=true/\e=.returned (.int .i64 (k:Nat))))/\w'=w:=by
 have af:=qH
 go_enter func167,ntmps167
 go_wp2
 go_loopw [8] (λp8 wr=>∃k:Nat,p8=.int .i64 (k:Nat)/\k<=ss.length/\wr=w/\(ss.take k).all (λs=> !s.isEmpty)=true) (λp8 _=>ss.length - (intOf p8).toNat)
 case atStart=>exact⟨0,rfl,Nat.zero_le _,rfl,rfl⟩
 case round=>
  obtain⟨k,rfl,hk,rfl,aa⟩:=hrel
  by_cases hlt:k<ss.length
  ·have t3:decide ((k:Int)<(ss.length:Int))=true:=by simpa using hlt
   obtain⟨x,hx⟩:∃x,ss[k]?=some x:=⟨_,N3 hlt⟩;have ae:IntKind.i64.wrap ((k:Int)+1)=(k:Int)+1:=by rw [N8];omega
   have ab:(ss.take (k+1)).all (λs=> !s.isEmpty)=((ss.take k).all (λs=> !s.isEmpty)&& !x.isEmpty):=by rw [List.take_add_one,hx];simp
   have y0:(0:Int)<=(k:Int):=by omega
   have y1:(k:Int)<(ss.length:Int):=by omega
   have c0:wr.cell? ⟨b,k,none⟩=some (.string (bs x)):=by rw [h.cell,List.getElem?_toArray,List.getElem?_map,hx];rfl
   have ac:=Xj x wr;replace ac:=hid ac;replace ab:=hid ab;replace aa:=hid aa;replace hx:=hid hx;replace h:=hid h;go_wp2_with fail
   refine ac.out.mono ?_;rintro e w1⟨rfl,ad⟩;obtain rfl:=ad.symm
   cases hxe:x.isEmpty
   ·go_wp2
    go_roundw
    case rel=>exact⟨k+1,by simp,by omega,trivial,by rw [ab.out,aa.out,hxe];rfl⟩
    case measure=>simp [intOf];omega
   go_wp2
   go_ret
   have:x=[]:=by cases x<;>simp_all
   exact⟨.inr ⟨k,by rw [hx.out,this],aa.out,rfl⟩,rfl⟩
  obtain rfl:k=ss.length:=by omega
  have t3:decide ((ss.length:Int)<(ss.length:Int))=false:=by simp
  rw [List.take_length] at aa;replace aa:=hid aa;go_wp2;go_ret
  exact⟨.inl ⟨aa.out,rfl⟩,rfl⟩
end
section
open Go Go.RowKit Go.ChangeShapes Go.WideShapes Go.ChangeAt
theorem own:ownKnob prog.godebug=none:=by kernel_rfl
theorem zdF:laidOutB prog=true:=by kernel_rfl
theorem zm7:prog.globalNamed "rostrum/registry.errTurn" =some 2:=by kernel_rfl
theorem zjD:(prog.globals[2]?).map (·.type)=some 253:=by kernel_rfl
theorem zjE:prog.cellsOf 485=1:=by kernel_rfl
theorem zjF:prog.cellsOf 9=1:=by kernel_rfl
theorem zm8: "*" ++ "errors.errorString" = "*errors.errorString" :=by decide
theorem zmc(u:TypeId)(h:prog.typeName? 3 u=some "*errors.errorString"):u=483:=
 typeName_ptr_named (nm:= "errors.errorString") (by rw [zm8];kernel_rfl) (by kernel_rfl) (by decide) u (by rw [zm8];exact h)
theorem xA {P:Program}{x:String×DataW Unit}{r:List (String×DataW Unit)}{W:World}(h:laidMet P (x::r) W):laidMet P r W:=by
 obtain⟨ps,⟨g,t,cs,aa,p,q,hg,ht,hv,hd,hq,e⟩,hn,hr⟩:=h;subst e;exact⟨q,hq,(List.nodup_append.1 hn).2.1,λb off hm=>hr b off (by simp [hm])⟩
abbrev zlh:List (String×DataW Unit):=[("math/bits.deBruijn32tab",Rows.laid_math_bits_deBruijn32tab),("math/bits.deBruijn64tab",Rows.laid_math_bits_deBruijn64tab),("internal/strconv.uint64pow10",Rows.laid_internal_strconv_uint64pow10),("unicode/utf8.acceptRanges",Rows.laid_unicode_utf8_acceptRanges),("rostrum/frame.errFrame",Rows.laid_rostrum_frame_errFrame),("rostrum/frame.errOld",Rows.laid_rostrum_frame_errOld),("strconv.ErrRange",Rows.laid_strconv_ErrRange),("strconv.ErrSyntax",Rows.laid_strconv_ErrSyntax),("rostrum/registry.errTurn",Rows.laid_rostrum_registry_errTurn),("unicode/utf8.first",Rows.laid_unicode_utf8_first)]
theorem JM {W:World}(h:laidMetH prog zlh W):∃a,jv W a:=by
 have h3:laidMet prog [("rostrum/registry.errTurn",Rows.laid_rostrum_registry_errTurn),("unicode/utf8.first",Rows.laid_unicode_utf8_first)] W:=xA (xA (xA (xA (xA (xA (xA (xA (show laidMet prog zlh W from h))))))));obtain⟨a,s,hv,_⟩:=laid_sentinel (r:=[("unicode/utf8.first",Rows.laid_unicode_utf8_first)]) h3 zm7 zjD Tryz.underlying253 zmc Tryz.underlying483 Tryz.underlying485 rfl rfl Tryz.underlying9 zjE zjF;exact⟨a,by simpa [jv] using World.var?_cell zm7 hv 0⟩
theorem Zd {W:World}(h:W.ShapedOpen prog):ZG W:=
 Go.Proofs.cell_of_shapedOpen_int (zero:=#[.int .i64 0]) (t:=3) h (of_decide_eq_true (by kernel_rfl)) (by kernel_rfl) rfl (by kernel_rfl) (by kernel_rfl) Tryz.underlying3
def zmd:DataW Unit->List Value
 | .lit (.int k n)=>[.int k n]
 |_=>[]
def zmN:DataW Unit->List Value
 | .agg ps=>ps.flatMap λd=>match d with
   | .agg qs=>qs.flatMap zmd
   |d=>zmd d
 |_=>[]
def zhz:DataW Unit->ByteArray
 | .iface _ (.ptr (.agg [.lit (.string s)]))=>⟨s.toArray⟩
 |_=>⟨#[]⟩
noncomputable def low:Nat:=(World.holding prog default ⟨#[],#[],[]⟩).heap.size
noncomputable def zhA(i:Nat):Obj->Obj
 | .cells _ t frozen=>.cells #[.iface 483 (.pointer (some ⟨low+i,0,none⟩))] t frozen
 |o=>o
def zhB(d:DataW Unit):Obj->Obj
 | .cells _ t frozen=>.cells (zmN d).toArray t frozen
 |o=>o
noncomputable def qh(os:Os):World:=
 let w0:=World.holding prog os ⟨#[.cells #[.string (zhz Rows.laid_rostrum_frame_errFrame)] 485,.cells #[.string (zhz Rows.laid_rostrum_frame_errOld)] 485,.cells #[.string (zhz Rows.laid_rostrum_registry_errTurn)] 485,.cells #[.string (zhz Rows.laid_strconv_ErrRange)] 485,.cells #[.string (zhz Rows.laid_strconv_ErrSyntax)] 485],#[],[]⟩
 {w0 with heap:=((((((((((w0.heap.modify 0 (zhA 0)).modify 1 (zhA 1)).modify 2 (zhA 2)).modify 5 (zhA 3)).modify 4 (zhA 4)).modify 9 (zhB Rows.laid_math_bits_deBruijn32tab)).modify 10 (zhB Rows.laid_math_bits_deBruijn64tab)).modify 6 (zhB Rows.laid_internal_strconv_uint64pow10)).modify 8 (zhB Rows.laid_unicode_utf8_acceptRanges)).modify 7 (zhB Rows.laid_unicode_utf8_first))}
theorem zaO(os:Os)(args:Array Value):laidMet prog zlh ((qh os).forCall (λ_ _=>0) ⟨#[],args,[]⟩).memory:=
 laidMet_of_run' 8 (by kernel_rfl) (by kernel_rfl)
end
section
open Go Go.RowKit
variable {P:Program}
def Zz(ps:Array Tmp)(vs:Array Value)(t:Array Value):Array Value:=(ps.zip vs).foldl (λt (p,v)=>t.setIfInBounds p v) t
theorem jf(p:Tmp)(v:Value)(t:Array Value):Zz #[p] #[v] t=t.setIfInBounds p v:=by simp [Zz]
theorem xZ(p q:Tmp)(u v:Value)(t:Array Value):Zz #[p,q] #[u,v] t=(t.setIfInBounds p u).setIfInBounds q v:=by simp [Zz]
theorem yV {α σ:Type}{g:Operand}{ps:Array Tmp}{assign body:Code}{Q:Exit->Act->World->Prop}{a:Act}{w:World}
 {gf:Nat} {lb:Array Value} (hg:a.eval g=.func (.func gf) #[] lb) (eg:∀args w,(callFunc gf args).run P w=.ok (.enter gf args) w)
 {encs:α->Array Value} {nx:σ->α->Prop} {st:σ->α->σ} {fin:σ->Prop} {Rd:σ->World->Prop} {s0:σ} (hit:zaF Fence.wide 2 P gf lb encs nx st fin Rd s0) (hps:∀x,(encs x).size=ps.size)
 (I:σ->(Nat->Prop)->World->Prop) (Ix:Code->(Nat->Prop)->World->Prop) (hI:Jc I) (hIx:∀c,Jc λ(_:Unit)=>Ix c) (hRd:∀s X W,I s X W->Rd s W)
 (hX:∀s X W,I s X W->w.heap.size<=W.heap.size/\∀k,X k->k<W.heap.size) (h0:I s0 (λ_=>False) w)
 (d:Tmp) (T:TypeId) (cells:α->Array Value)
 (hassign:∀(l:Nat)(x:α)(W:World)(K:Act->World->Prop),K {tmps:=(Zz ps (encs x) a.tmps).setIfInBounds d (.pointer (some ⟨W.heap.size,0,none⟩)),defers:=[] } (W.alloc (.cells (cells x) T))->
  assign.wpIn (Fence.wide.inRound l) 1 P (Exit.then K (λ_ _ _=>False)) {tmps:=Zz ps (encs x) a.tmps,defers:=[] } W)
 (hbody:∀(l:Nat)(s:σ)(x:α)(cb:Nat)(X X1:Nat->Prop)(W1 W:World),I s X1 W1->I s X W->nx s x->W1.heap.size<=cb->w.heap.size<=cb->¬X cb->Blk W cb (cells x) T->X l->(∃r,W.heap[l]?=some (.loop r))->
  body.wpIn (Fence.wide.inRound l) 1 P (zbM I Ix (st s x) X W) {tmps:=(Zz ps (encs x) a.tmps).setIfInBounds d (.pointer (some ⟨cb,0,none⟩)),defers:=[] } W)
 (hdone:∀(D:Nat)(s:σ)(X:Nat->Prop)(W:World),w.heap.size<=D->X D->fin s->I s X W->W.heap[D]?=some (.deferred (some []))->Q .normal {a with defers:={target:=.collected D,args:=#[] } ::a.defers} W)
 (hstop:∀(D:Nat)(c:Code)(X:Nat->Prop)(W:World),w.heap.size<=D->X D->Ix c X W->W.heap[D]?=some (.deferred (some []))->c.wp P Q {a with defers:={target:=.collected D,args:=#[] } ::a.defers} W):
 (Code.rangeFunc g ps assign body).wp P Q a w:=by
 refine Xc hg eg hit hps I Ix hI hIx hRd h0
  (λs x a' X W=>∃cb X1 W1,a'={tmps:=(Zz ps (encs x) a.tmps).setIfInBounds d (.pointer (some ⟨cb,0,none⟩)),defers:=[] } /\I s X1 W1/\I s X W/\nx s x/\W1.heap.size<=cb/\w.heap.size<=cb/\¬X cb/\Blk W cb (cells x) T)
  ?ax ?assign ?body hdone hstop
 case ax=>
  rintro s x a' u X X' W W'⟨cb,X1,W1,ha,h1,h2,h3,h4,h5,h6,h7⟩ hm hx;exact⟨cb,X1,W1,ha,h1,hI _ _ _ _ _ h2 hm hx,h3,h4,h5,λh=>(hx cb h).elim h6 (λh'=>by have:=h7.lt;omega),h7.mod hm h6⟩
 case assign=>
  intro l s x X W K h hn hK;have hw:=hX _ _ _ h;have ab:¬X W.heap.size:=λe=>by have:=hw.2 _ e;omega
  refine hassign l x W K (hK _ _ ⟨W.heap.size,X,W,rfl,h,?_,hn,N0 _,hw.1,ab,Blk.new rfl⟩ (jm.of_mod (Mod.alloc (λ_=>False) _ _) (λ_ _ _ h=>h)));exact hI _ _ _ _ _ h (Mod.alloc _ _ _) (λk hk=>.inl hk)
 case body=>
  rintro l s x a' X W⟨cb,X1,W1,rfl,h1,h2,h3,h4,h5,h6,h7⟩ aa hr;exact hbody l s x cb X X1 W1 W h1 h2 h3 h4 h5 h6 h7 aa hr
theorem xm {α σ:Type}{g:Operand}{ps:Array Tmp}{assign body:Code}{Q:Exit->Act->World->Prop}{a:Act}{w:World}
 {gf:Nat} {lb:Array Value} (hg:a.eval g=.func (.func gf) #[] lb) (eg:∀args w,(callFunc gf args).run P w=.ok (.enter gf args) w)
 {encs:α->Array Value} {nx:σ->α->Prop} {st:σ->α->σ} {fin:σ->Prop} {Rd:σ->World->Prop} {s0:σ} (hit:zaF Fence.wide 2 P gf lb encs nx st fin Rd s0) (hps:∀x,(encs x).size=ps.size)
 (I:σ->(Nat->Prop)->World->Prop) (Ix:Code->(Nat->Prop)->World->Prop) (hI:Jc I) (hIx:∀c,Jc λ(_:Unit)=>Ix c) (hRd:∀s X W,I s X W->Rd s W) (h0:I s0 (λ_=>False) w)
 (sets:α->List (Tmp×Value))
 (hassign:∀(l:Nat)(x:α)(W:World)(K:Act->World->Prop),K {tmps:=(sets x).foldl (λt p=>t.setIfInBounds p.1 p.2) (Zz ps (encs x) a.tmps),defers:=[] } W->
  assign.wpIn (Fence.wide.inRound l) 1 P (Exit.then K (λ_ _ _=>False)) {tmps:=Zz ps (encs x) a.tmps,defers:=[] } W)
 (hbody:∀(l:Nat)(s:σ)(x:α)(X:Nat->Prop)(W:World),I s X W->nx s x->X l->(∃r,W.heap[l]?=some (.loop r))->
  body.wpIn (Fence.wide.inRound l) 1 P (zbM I Ix (st s x) X W) {tmps:=(sets x).foldl (λt p=>t.setIfInBounds p.1 p.2) (Zz ps (encs x) a.tmps),defers:=[] } W)
 (hdone:∀(D:Nat)(s:σ)(X:Nat->Prop)(W:World),w.heap.size<=D->X D->fin s->I s X W->W.heap[D]?=some (.deferred (some []))->Q .normal {a with defers:={target:=.collected D,args:=#[] } ::a.defers} W)
 (hstop:∀(D:Nat)(c:Code)(X:Nat->Prop)(W:World),w.heap.size<=D->X D->Ix c X W->W.heap[D]?=some (.deferred (some []))->c.wp P Q {a with defers:={target:=.collected D,args:=#[] } ::a.defers} W):
 (Code.rangeFunc g ps assign body).wp P Q a w:=
 zeR hg eg hit hps I Ix hI hIx hRd h0 (λx=> {tmps:=(sets x).foldl (λt p=>t.setIfInBounds p.1 p.2) (Zz ps (encs x) a.tmps),defers:=[] })
  (λl x W K hK=>hassign l x W K hK) (λl s x X W h hn hl hr=>hbody l s x X W h hn hl hr) hdone hstop
end
open Go Go.RowKit Go.Shelf Go.Extern.Stop Go.Stop Go.Extern
open Go.Lib
attribute [local go_sem] Oper.semAt_some zB zo
def u8s(l:List UInt8):List Value:=l.map λb=>Value.int .u8 b.toNat
theorem zdG(l:List UInt8):strCells (bs l)=u8s l:=by simp [strCells,u8s,bs]
theorem Jh(a b:List UInt8):u8s (a++b)=u8s a++u8s b:=by simp [u8s]
theorem JN:Yf prog 49 5 1 1 (.int .u8 0):=⟨Tryz.underlying49,by kernel_rfl,rfl,by decide,by decide⟩
theorem zmF:Yf prog 107 9 1 16 (.string ⟨#[]⟩):=⟨Tryz.underlying107,by kernel_rfl,rfl,by decide,by decide⟩
def yh(ts:List (List UInt8)):List Value:=ts.map λt=>Value.string (bs t)
theorem zbX(ts:List (List UInt8)):∀u∈yh ts,u.oneCell'=true:=by
 intro u hu;simp [yh] at hu;obtain⟨t,_,rfl⟩:=hu;rfl
theorem zli {base:Nat}{w:World}{e:TypeId}{size:Nat}{v:Value}{n:Nat}{xs:List Value}(h:w.ownsRow base e size v n xs):Src w v size n xs:=Row.src (e:=e) ⟨h.1,by
 rcases h.2 with h|⟨g',c',cu,h,hb',r⟩
 ·exact .inl h
 exact .inr ⟨g',c',cu,h,Nat.zero_le _,r⟩⟩
theorem Xk {base:Nat}{w:World}{v:Value}{l s:List UInt8}(h:w.ownsRow base 5 1 v l.length (u8s l))(hb:l.length+s.length<=1073741824)(hB:base<=w.heap.size)(ty:TypeId):
 ∃v' w',(Builtin.append_ #[49,9] ty #[v,.string (bs s)]).run prog w=.ok v' w'/\w'.ownsRow base 5 1 v' (l++s).length (u8s (l++s))/\w.grownBy w' v.ownBlock:=by
 obtain⟨i,hi,ab,ac,aa⟩:=info_parts JN.info;obtain⟨v',w',h1,h2,h3, -⟩:=run_append_own_string (P:=prog) w base 49 9 ty 5 i JN.under Tryz.underlying9 hi ab ac aa v _ _ h (bs s) (by rw [zI];unfold maxLen;omega) (by rw [zI];omega) hB;refine⟨v',w',h1,?_,h3⟩;rw [zdG,zI] at h2;rw [N1,Jh];exact h2
theorem qN {P:Program}{w:World}{ops:Array Oper}{rest:List Oper}{o:Oper}{a:Act}{Q:Exit->Act->World->Prop}(hgd:o.guard=none)(s x:Operand)(t u:TypeId)
 (ho:o.op=.call {callee:=.builtin .append,args:=#[s,x],argTypes:=#[t,u] }) {v src:Value} (hs:a.eval s=v) (hx:a.eval x=src)
 {v':Value} {w':World} (hr:(Builtin.append_ #[t,u] o.type #[v,src]).run P w=.ok v' w') (h:wpList P ops Q rest (a.put o.dst v') w'):wpList P ops Q (o::rest) a w:=by
 refine wpList_plain hgd λK hK=>?_
 unfold Oper.wp execOp;simp only [ho,resolve,invoke,builtin,Sem.run_bind,Sem.run_pure,Result.andThen_ok,List.map_toArray,List.map_cons,List.map_nil,hs,hx,hr];exact hK _ _ h
theorem Xl(l:List UInt8):strOfNums (l.map λb:UInt8=>(b.toNat:Int))=bs l:=by
 unfold strOfNums bs;congr 1;simp [Function.comp_def]
theorem Yi(ts:List (List UInt8))(k:Nat)(x:List UInt8)(h:ts[k]?=some x):(ts.take (k+1)).flatten=(ts.take k).flatten++x:=by
 rw [List.take_add_one,h];simp
theorem zbY(ts:List (List UInt8))(k:Nat):(ts.take k).flatten.length<=ts.flatten.length:=by
 have:=congrArg (λl=>l.flatten.length) (List.take_append_drop k ts);simp only [List.flatten_append,N1] at this;omega
theorem Y6 {w:World}{v:Value}{l:List UInt8}(h:Src w v 1 l.length (u8s l)):(convert 49 9 v).run prog w=.ok (.string (bs l)) w:=by
 rcases h.2 with⟨rfl,hn⟩|⟨b,off,cap,rfl,hc,hr⟩
 ·obtain rfl:l=[]:=N9 hn
  exact run_convert_bytes_nil (P:=prog) w 49 5 Tryz.underlying49 Tryz.underlying5 0 0 9 Tryz.underlying9
 have:=run_convert_bytes_arg (P:=prog) w 49 5 Tryz.underlying49 Tryz.underlying5 b off l.length cap (l.map λb:UInt8=>(b.toNat:Int)) (by simp) (λi hi=>by
  refine hr i _ ?_
  simp [u8s,hi]) 9 Tryz.underlying9
 rw [this,Xl]
def zaP(ts:List (List UInt8))(k:Nat):Nat:=(ts.take k).flatten.length
theorem Yj {ts:List (List UInt8)}{k:Nat}{x:List UInt8}(h:ts[k]?=some x):zaP ts (k+1)=zaP ts k+x.length:=by
 unfold zaP;rw [Yi ts k x h,N1]
theorem Xm(ts:List (List UInt8))(k:Nat):zaP ts k<=zaP ts ts.length:=by
 have:=zbY ts k;simpa [zaP] using this
theorem zdH(v:Value)(ts:List (List UInt8))(w:World)(hv:Src w v 1 ts.length (yh ts))(h0:0<ts.length)(hl:ts.length<=1000000)(hb:zaP ts ts.length<=1073741824):Calls prog 135 #[v] w λe w'=>
 e=.returned (.string (bs ts.flatten))/\Below w.heap.size w w':=by
 obtain⟨i0,hi,al,am,ao⟩:=info_parts JN.info
 rcases hv.2 with⟨rfl,hn⟩|⟨b,off,cap,rfl,hc,hr⟩
 ·omega
 clear hv h0
 go_enter func135,ntmps135
 go_wp2
 go_loop [3,11] (λp3 p11=>∃k:Nat,k<=ts.length/\p11=.int .i64 k/\p3=.int .i64 (zaP ts k:Nat)) (λ_ p11=>ts.length - (RowKit.intOf p11).toNat)
 case atStart=>exact⟨0,Nat.zero_le _,rfl,rfl⟩
 case round=>
  obtain⟨k,hk,rfl,rfl⟩:=hrel
  by_cases hlt:k<ts.length
  ·obtain⟨x,hx⟩:∃x,ts[k]?=some x:=⟨_,N3 hlt⟩
   have aq:w.cell? ⟨b,off+k,none⟩=some (.string (bs x)):=hr k _ (by simp [yh,hx]);have aw:=Xm ts k;have ap:=Xm ts (k+1);have ac:=Yj hx;have ag:=zI x;rw [ac] at ap;have au:((bs x).size:Int)<=1073741824:=by rw [ag];omega
   replace ac:=hid ac;replace ag:=hid ag;replace hx:=hid hx;clear hr;go_wp2
   go_round
   case rel=>exact⟨k+1,by omega,by go_num,by rw [ac.out];have:=ag.out;go_num⟩
   case measure=>simp [RowKit.intOf];omega
  obtain rfl:k=ts.length:=by omega
  replace hr:=hid hr;obtain⟨w1,ar,ab,af⟩:=run_make_own (P:=prog) w w.heap.size 49 5 i0 (.int .u8 0) 1 JN.under hi al am .i64 .i64 (zaP ts ts.length) (by rw [ao];omega) (by unfold maxLen;omega) (N0 _);have an:Below w.heap.size w w1:=(N2 _ _).grown af (N0 _) (λ_ h=>by cases h);clear af hi al am ao;go_wp2;clear ar
  go_loopw [6,24] (λp6 p24 wr=>∃k:Nat,k<=ts.length/\p24=.int .i64 k/\wr.ownsRow w.heap.size 5 1 p6 (ts.take k).flatten.length (u8s (ts.take k).flatten)/\Below w.heap.size w wr) (λ_ p24 _=>ts.length - (RowKit.intOf p24).toNat)
  case atStart=>exact⟨0,Nat.zero_le _,rfl,ab,an⟩
  case round=>
   obtain⟨k,hk,rfl,aa,ad⟩:=hrel;clear ab an
   by_cases hlt:k<ts.length
   ·obtain⟨x,hx⟩:∃x,ts[k]?=some x:=⟨_,N3 hlt⟩
    have aq:wr.cell? ⟨b,off+k,none⟩=some (.string (bs x)):=(ad.cell (jx (hr.out k (.string (bs x)) (by simp [yh,hx])))).trans (hr.out k _ (by simp [yh,hx]));have ac:=Yi ts k x hx
    have ah:(ts.take k).flatten.length+x.length<=1073741824:=by
     have h1:=Xm ts (k+1);rw [Yj hx] at h1;have h2:zaP ts k=(ts.take k).flatten.length:=rfl;omega
    replace ac:=hid ac;replace ah:=hid ah;replace hx:=hid hx
    generalize hacc:(ts.take k).flatten=acc at*
    replace hacc:=hid hacc
    go_wp2_with (at_builtin
                 obtain⟨v',w2,ae,aj,ak⟩:=Xk aa ah.out ad.size 49;refine qN rfl _ _ _ _ rfl rfl rfl ae ?_
                 have ai:=ad.grown ak ad.size (λg hg=>by
                  rcases aa.2 with⟨h,_⟩|⟨g',c',cu,h,hb',_⟩
                  ·rw [h] at hg;cases hg
                  rw [h] at hg;cases hg;exact hb')
                 clear ae ak)
    go_roundw
    case rel=>exact⟨k+1,by omega,by go_num,by rw [ac.out];exact aj,ai⟩
    case measure=>simp [RowKit.intOf];omega
   obtain rfl:k=ts.length:=by omega
   rw [List.take_length] at aa;have ax:=Y6 (zli aa);clear aa hc hr;go_wp2;go_ret
   exact⟨rfl,ad⟩
