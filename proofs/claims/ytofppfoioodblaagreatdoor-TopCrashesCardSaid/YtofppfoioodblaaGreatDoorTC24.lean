/- PARTS OF THE PROOF. -/
import Derived.Test.YtofppfoioodblaaGreatDoorTC23
set_option maxRecDepth 8000
set_option maxHeartbeats 4000000
namespace Go.Proofs.YtofppfoioodblaaGreatDoor
section
open Go Go.RowKit Go.Shelf Go.Extern.Stop Go.Stop Go.Extern
attribute [local go_sem] Oper.semAt_some zB zp
theorem za2(n:zr)(d:List UInt8):(zv n d).1.pax=n.pax:=by
 unfold zv
 split
 ·rfl
 split
 ·rfl
 split
 ·rfl
 exact(vm _ _).1.pax
theorem QC(p:xH)(i:Int)(b:Nat):(zD p i b).1.known=p.known:=by
 unfold zD
 split
 ·rfl
 split<;>rfl
theorem zee(p:xH)(i:Int)(b:Nat)(x:List UInt8):(vO p i b x).1.known=p.known:=by
 unfold vO
 split
 ·rfl
 split<;>rfl
theorem za3(n:zr)(i:Int)(b:Nat):(zC n i b).1.pax.known=n.pax.known:=by
 unfold zC
 split
 ·rfl
 split
 ·rfl
 split<;>exact QC _ _ _
theorem zam(n:zr)(i:Int)(b:Nat)(x:List UInt8):(yS n i b x).1.pax.known=n.pax.known:=by
 unfold yS
 split
 ·rfl
 split
 ·rfl
 exact zee _ _ _ _
theorem ZS(n:zr)(i:Int)(x:List UInt8)(h:yz n.pax.known):yz (jg n i x).1.pax.known:=by
 have hk:=(JJ (p:=n.pax) i x).2.1 h;unfold jg
 split
 ·exact h
 simp only
 split
 ·exact h
 split
 ·rw [(vo _ _).pax];exact hk
 split
 ·exact hk
 rw [(vo _ _).pax];exact hk
theorem QD(n:zr)(s:StD):yz (jt n s).pax.known:=by
 unfold jt;simp only
 show yz (jE _ _).pax.known
 rw [(vm _ _).1.pax,(vo _ _).pax];exact(zak {n with store:=(zZ n.store).1} s _).2.1
structure yO(v:Int)(n:zr):Prop where
 ok:zca (zk v) n
 known:yz n.pax.known
 ver:n.version=v
theorem yO.does {v:Int}{n:zr}(h:yO v n)(x:zlU)(hb:x.b<18446744073709551616):yO v (zdI (zk v) n x):=by
 refine⟨zln h.ok x hb,?_,?_⟩
 ·have hk:=h.known
  unfold zdI
  split
  ·rw [za2];exact hk
  split
  ·rw [za3];exact hk
  split
  ·rw [zam];exact hk
  split
  ·exact ZS _ _ _ hk
  split
  ·unfold JI;split
   ·exact hk
   split<;>exact hk
  split
  ·unfold J4;split<;>exact hk
  split
  ·unfold vU;split<;>exact hk
  split
  ·exact QD _ _
  split
  ·exact ZS _ _ _ hk
  exact hk
 obtain⟨⟨l,hi⟩, -⟩:=h.ok
 obtain⟨l',hs⟩:=zb8 hi x hb;exact hs.same.2.1.trans h.ver
theorem yO.broadcast {v:Int}{n:zr}(h:yO v n)(d:List UInt8)(hd:d.length<=300):yO v (zv n d).1:=by
 have:=h.does ⟨0,0,0,d⟩ (by simp)
 rwa [show zdI (zk v) n ⟨0,0,0,d⟩=(zv n (zb6 ⟨0,0,0,d⟩)).1 from rfl,show zb6 ⟨0,0,0,d⟩=d from List.take_of_length_le hd] at this
theorem yO.promise {v:Int}{n:zr}(h:yO v n)(i:Int)(b:Nat)(hb:b<18446744073709551616):yO v (zC n i b).1:=h.does ⟨1,i,b,[]⟩ hb
theorem yO.want {v:Int}{n:zr}(h:yO v n)(i:Int):yO v (JI n i).1:=h.does ⟨4,i,0,[]⟩ (by simp)
theorem yO.cut {v:Int}{n:zr}(h:yO v n)(i:Int):yO v (J4 n i).1:=h.does ⟨5,i,0,[]⟩ (by simp)
theorem yO.crash {v:Int}{n:zr}(h:yO v n):yO v (vU n).1:=h.does ⟨6,0,0,[]⟩ (by simp)
theorem yO.recover {v:Int}{n:zr}(h:yO v n):yO v (jt n (zk v)):=h.does ⟨7,0,0,[]⟩ (by simp)
theorem yO.new {v id cap:Int}(h1:64<=cap)(h2:cap<=1048576):yO v (zhv id v cap [] (zk v)):=
 ⟨⟨⟨[],zj8 id v cap [] (zk v)⟩,zb9 h1 h2⟩,λi x h=>by simp [zhv,xl,zE] at h,rfl⟩
def more(F:Nat->Prop)(W W':World):Nat->Prop:=λk=>F k∨(W.heap.size<=k/\k<W'.heap.size)
variable {w W W':World}{F:Nat->Prop}{B:Nat}{n:zr}{a:Addr}{v:Int}
end
section
open Go Go.RowKit
variable {P:Program}{ops:Array Oper}{Q:Exit->Act->World->Prop}
abbrev zcv:World->Prop:=λ_=>True
def VB(ops:Array Oper):Option Nat->List (Nat×Bool)->Array Bool->Bool
 |_,[],listed=>(Region.ready .any ops listed).isEmpty
 |brk,(i,true)::r,listed=>(match brk with|none=>true|some f=> !listed.getD f true &&(zlT ops f).contains i && i !=f)&&(Region.ready .any ops listed).contains i && Region.free .any ops listed i && VB ops brk r (listed.setIfInBounds i true)
 |brk,(i,false)::r,listed=>decide (Region.ready .any ops listed=[i])&& VB ops (if brk=some i then none else brk) r (listed.setIfInBounds i true)
def yT(P:Program)(ops:Array Oper)(Q:Exit->Act->World->Prop):(World->Prop)->Option Nat->List (Nat×Bool)->Act->World->Prop
 |_,_,[],a,w=>Q .normal a w
 |S,brk,(i,true)::r,a,w=>∃o v,ops[i]?=some o/\YieldsIf P ops S o v a/\yT P ops Q S brk r (a.put o.dst v) w
 |S,brk,(i,false)::r,a,w=>wpOp P ops (λ_ _ _=>False) i (λa' w'=>(brk=some i->yT P ops Q zcv none r a' w')/\(brk≠some i->S w'/\yT P ops Q S brk r a' w')) a w
theorem JV {S:World->Prop}{f:Nat} :∀(fuel:Nat)(listed:Array Bool)(a:Act)(w:World),listed.getD f true=true->yG P ops Q zcv none fuel listed a w->yG P ops Q S (some f) fuel listed a w
 |0,_,_,_,_,h=>h
 |fuel+1,listed,a,w,hf,h=>⟨h.1,λi hi=>wpOp_mono (λa' w' h'=>by
  have hf':(listed.setIfInBounds i true).getD f true=true:=by
   by_cases e:i=f
   ·subst e
    by_cases hb:i<listed.size
    ·simp [hb]
    simp
   rw [getD_set_ne true e];exact hf
  exact⟨λhas=>absurd (has f rfl) (by rw [hf'];simp),JV fuel _ a' w' hf' h'.2⟩) (h.2 i hi)⟩
theorem qo(hsel:Region.noSelect ops=true):∀(l:List (Nat×Bool)) (S:World->Prop) (brk:Option Nat) (listed:Array Bool) (a:Act) (w:World),VB ops brk l listed=true->Jv ops listed->(JE brk listed->S w)->
 yT P ops Q S brk l a w->yG P ops (jk Q) S brk l.length listed a w
 | [],S,brk,listed,a,w,hB,hc,hS,h=>⟨by simpa [VB] using hB,h⟩
 |(i,true)::l,S,brk,listed,a,w,hB,hc,hS,h=>by
  simp only [VB,Bool.and_eq_true] at hB;obtain⟨⟨⟨hk,hr⟩,hf⟩,hB⟩:=hB;have hr':i∈Region.ready .any ops listed:=by simpa using hr
  have aa:JE brk listed:=λf hf=>by subst hf;simp at hk;simpa using hk.1.1
  obtain⟨o,v,ho,hy,h⟩:=h
  exact ZE ho (Region.noSelect_spec hsel) (λ_ _ _ h=>h) (λf hf=>(by subst hf;simp at hk;exact⟨hk.1.2,hk.2⟩)) _ listed a w hc aa (Region.free_spec ho hf) hr' hy (hS aa)
   (qo hsel l S brk _ _ w hB (hc.set hr') (λ_=>hS aa) h)
 |(i,false)::l,S,brk,listed,a,w,hB,hc,hS,h=>by
  simp only [VB,Bool.and_eq_true,decide_eq_true_eq] at hB;obtain⟨hr,hB⟩:=hB;refine⟨λh0=>(by rw [h0] at hr;cases hr),λj hj=>?_⟩;have ae:j=i:=by rw [hr] at hj;simpa using hj
  subst ae
  have ad:j<listed.size:=by
   rcases Nat.lt_or_ge j listed.size with h'|h'
   ·exact h'
   have:=(mem_ready.1 hj).1;simp [Array.getElem?_eq_none h'] at this
  refine wpOp_mono (λa' w' ⟨h1,h2⟩=>?_) (xq h)
  by_cases hb:brk=some j
  ·subst hb
   rw [if_pos rfl] at hB;exact⟨λaa=>absurd (aa j rfl) (by simp [ad]),JV _ _ a' w' (by simp [ad]) (qo hsel l zcv none _ a' w' hB (hc.set hj) (λ_=>trivial) (h1 rfl))⟩
  rw [if_neg hb] at hB
  obtain⟨ac,h3⟩:=h2 hb;exact⟨λ_=>ac,qo hsel l S brk _ a' w' hB (hc.set hj) (λ_=>ac) h3⟩
theorem yV {id:Nat}{a:Act}{w:World}{l:List Oper}(sch:List (Nat×Bool))(brk:Option Nat)(S:World->Prop)(hS:S w.drew)(h:yT P l.toArray Q S brk sch a w.drew)(hm:P.follows .mixedOrders=true:=by kernel_rfl)(hB:(Region.noSelect l.toArray && decide (sch.length=l.length)&& VB l.toArray brk sch (Array.replicate l.length false))=true:=by kernel_rfl):(Code.region id l.toArray true).wp P Q a w:=by
 simp only [Bool.and_eq_true,decide_eq_true_eq] at hB;obtain⟨⟨h1,h2⟩,h3⟩:=hB;have H:=qo h1 sch S brk _ a w.drew h3 (q9 l) (λ_=>hS) h;rw [h2] at H;exact wp_mono (wp_region_any (Q:=jk Q) hm (by simpa using qI _ _ _ _ H)) (λe a w h=>jk.imp e a w h)
variable {S:World->Prop}{brk:Option Nat}
theorem jM {a:Act}{w:World}(h:Q .normal a w):yT P ops Q S brk [] a w:=by unfold yT;exact h
theorem zF {i:Nat}{r:List (Nat×Bool)}{o:Oper}{a:Act}{w:World}{v:Value}(ho:ops[i]?=some o)(hg:Region.wanted o (yielded ops a.tmps)=true)
 (h1:∀w',S w'->(execOp a.eval o).run P w'=.ok (.value v) w') (h2:∀K:Act->Prop,(∀a',yT P ops Q S brk r a' w->K a')->K (a.put o.dst v)):yT P ops Q S brk ((i,true)::r) a w:=by
 unfold yT;exact⟨o,v,ho,.inl ⟨hg,h1⟩,h2 _ (λ_ h=>h)⟩
theorem Wg {R G:Prop} (k:R) (t:R->G:=by intro kk;(repeat (refine zF (v:=?_) rfl rfl (λw' h=>?_) (λK k=>?_);rotate_left;(focus (clear h;go_simp;(try with_reducible rfl)));(go_simp;refine k _ ?_;clear k K)));exact kk):G:=t k
theorem Wr {R G:Prop} (k:R) (t:R->G:=by intro kk;(repeat (refine zF (v:=?_) rfl rfl (λw' h=>?_) (λK k=>?_);rotate_left;obtain⟨f1,f2,f3,f4,f5,_⟩:=h;(try have e1:=f1.cell);(try have e2:=f2.cell);(try have e3:=f3.cell);(try have e4:=f4.cell);(try have e5:=f5.cell);go_simp;(try with_reducible rfl);go_simp;refine k _ ?_;clear k K));exact kk):G:=t k
theorem Ws {R G:Prop} (k:R) (t:R->G:=by intro kk;(repeat (refine zF (v:=?_) rfl rfl (λw' h=>?_) (λK k=>?_);rotate_left;obtain⟨f1,f2,f3,f4,_⟩:=h;have e4:=f4.cell;go_simp;(try with_reducible rfl);go_simp;refine k _ ?_;clear k K));exact kk):G:=t k
theorem Wx {R G:Prop} (k:R) (t:R->G:=by intro kk;(repeat (refine zF (v:=?_) rfl rfl (λw' h=>?_) (λK k=>?_);rotate_left;obtain⟨f1,f2,f3,_⟩:=h;have e1:=f1.cell;go_simp;(try with_reducible rfl);go_simp;refine k _ ?_;clear k K));exact kk):G:=t k
theorem ZT {i:Nat}{r:List (Nat×Bool)}{o:Oper}{a:Act}{w:World}(ho:ops[i]?=some o)(hg:Region.wanted o (yielded ops a.tmps)=false)
 (h2:∀K:Act->Prop,(∀a',yT P ops Q S brk r a' w->K a')->K (a.put o.dst undef)):yT P ops Q S brk ((i,true)::r) a w:=by
 unfold yT;exact⟨o,undef,ho,.inr ⟨hg,rfl⟩,h2 _ (λ_ h=>h)⟩
theorem Wy {R G:Prop} (k:R) (t:R->G:=by intro kk;(repeat (refine ZT rfl rfl (λK hK=>?_);go_simp;refine hK _ ?_;clear hK K));exact kk):G:=t k
theorem yU {i:Nat}{o:Oper}{a:Act}{w:World}{R:Act->World->Prop}(ho:ops[i]?=some o)
 (h:∀K:Act->World->Prop,Shut (∀a' w',R a' w'->K a' w')->wpList P ops (Exit.then K (λ_ _ _=>False)) [o] a w):wpOp P ops (λ_ _ _=>False) i R a w:=by
 have H:=h R (λa' w' h1=>h1);unfold wpOp;rw [ho];unfold wpList at H;simp only
 split
 ·rename_i hw
  rw [if_pos hw] at H
  rcases H with H|⟨_,_,_,H⟩
  ·refine .inl ?_
   unfold Oper.wp at*
   generalize(execOp a.eval o).run P w=x at*
   cases x with
   |ok n w'=>
    cases n<;>simp only [Oper.upon] at H⊢<;>
     first
      |exact H
      |exact Calls.mono H (λe w'' he=>by cases e<;>first|exact he|exact he.elim|(obtain⟨_,_,h0⟩:=he;exact h0.elim))
      |exact Rows.mono H (λ_ _ he=>he)
   |halt x w'=>cases x<;>simp only [Oper.upon] at H⊢<;>first|exact H|exact H.elim
  exact H.elim
 rename_i hw
 rw [if_neg hw] at H;exact H
theorem yP {i:Nat}{r:List (Nat×Bool)}{o:Oper}{a:Act}{w:World}(ho:ops[i]?=some o)(hb:brk≠some i)
 (h:∀K:Act->World->Prop,Shut (∀a' w',S w'->yT P ops Q S brk r a' w'->K a' w')->wpList P ops (Exit.then K (λ_ _ _=>False)) [o] a w):yT P ops Q S brk ((i,false)::r) a w:=by
 unfold yT;exact yU ho (λK hK=>h K (λa' w' h1 h2=>hK.out a' w' ⟨λe=>absurd e hb,λ_=>⟨h1,h2⟩⟩))
theorem vj {i:Nat}{r:List (Nat×Bool)}{o:Oper}{a:Act}{w:World}(ho:ops[i]?=some o)
 (h:∀K:Act->World->Prop,Shut (∀a' w',yT P ops Q zcv none r a' w'->K a' w')->wpList P ops (Exit.then K (λ_ _ _=>False)) [o] a w):yT P ops Q S (some i) ((i,false)::r) a w:=by
 unfold yT;exact yU ho (λK hK=>h K (λa' w' h1=>hK.out a' w' ⟨λ_=>h1,λe=>absurd rfl e⟩))
end
section
open Go Go.RowKit
variable {P:Program}{ops:Array Oper}{Q:Exit->Act->World->Prop}{S:World->Prop}{brk:Option Nat}
def zef(ops:Array Oper)(listed:Array Bool):Bool:=
 (List.range ops.size).all λj=> !listed.getD j false||((ops[j]?.map λo=>o.after.toList.all λe=> !Region.binds .any e||listed.getD e.on false).getD true)
theorem zcw {listed:Array Bool}(h:zef ops listed=true):Jv ops listed:=by
 intro j oj hj hl e he hb;unfold zef at h;rw [List.all_eq_true] at h;have h1:=h j (List.mem_range.2 (N5.1 hj).1);rw [hl,hj] at h1;simp only [Bool.not_true,Bool.false_or,Option.map_some,Option.getD_some,List.all_eq_true] at h1;have h2:=h1 e (by simpa using he);rw [hb] at h2
 simpa using h2
def okQ(ops:Array Oper)(brk:Option Nat)(listed:Array Bool)(i:Nat):Bool:=(match brk with|none=>true|some f=> !listed.getD f true &&(zlT ops f).contains i && i !=f)&&(Region.ready .any ops listed).contains i && Region.free .any ops listed i
def XY(ops:Array Oper)(brk:Option Nat):List (Nat×Bool)->Array Bool->Option (Array Bool)
 | [],listed=>some listed
 |(i,true)::r,listed=>if okQ ops brk listed i=true then XY ops brk r (listed.setIfInBounds i true)else none
 |(i,false)::r,listed=>if(decide (Region.ready .any ops listed=[i])&& brk !=some i)=true then XY ops brk r (listed.setIfInBounds i true)else none
theorem JW(hsel:Region.noSelect ops=true){m:Nat}{last:Array Bool} :∀(l:List (Nat×Bool)) (listed:Array Bool) (a:Act) (w:World),XY ops brk l listed=some last->Jv ops listed->(JE brk listed->S w)->
 yT P ops (λ_ a w=>(JE brk last->S w)->yG P ops (jk Q) S brk m last a w) S brk l a w->yG P ops (jk Q) S brk (l.length+m) listed a w
 | [],listed,a,w,hB,hc,hS,h=>by
   simp only [XY,Option.some.injEq] at hB;subst hB;unfold yT at h;have h':=h hS
   rwa [show m=([]:List (Nat×Bool)).length+m by simp] at h'
 |(i,true)::l,listed,a,w,hB,hc,hS,h=>by
  simp only [XY] at hB
  by_cases hk:okQ ops brk listed i=true
  ·rw [if_pos hk] at hB
   unfold okQ at hk;simp only [Bool.and_eq_true] at hk;obtain⟨⟨hk,hr⟩,hf⟩:=hk;have hr':i∈Region.ready .any ops listed:=by simpa using hr
   have aa:JE brk listed:=λf hf=>by subst hf;simp at hk;simpa using hk.1.1
   unfold yT at h;obtain⟨o,v,ho,hy,h⟩:=h;rw [show((i,true)::l).length+m=(l.length+m)+1 by simp;omega]
   exact ZE ho (Region.noSelect_spec hsel) (λ_ _ _ h=>h) (λf hf=>(by subst hf;simp at hk;exact⟨hk.1.2,hk.2⟩)) _ listed a w hc aa (Region.free_spec ho hf) hr' hy (hS aa)
    (JW hsel l _ _ w hB (hc.set hr') (λ_=>hS aa) h)
  rw [if_neg hk] at hB;cases hB
 |(i,false)::l,listed,a,w,hB,hc,hS,h=>by
  simp only [XY] at hB
  by_cases hk:(decide (Region.ready .any ops listed=[i])&& brk !=some i)=true
  ·rw [if_pos hk] at hB
   simp only [Bool.and_eq_true,decide_eq_true_eq,bne_iff_ne,ne_eq] at hk;obtain⟨hr,hb⟩:=hk;unfold yT at h;rw [show((i,false)::l).length+m=(l.length+m)+1 by simp;omega];refine⟨λh0=>(by rw [h0] at hr;cases hr),λj hj=>?_⟩;have ad:j=i:=by rw [hr] at hj;simpa using hj
   subst ad;refine wpOp_mono (λa' w' ⟨_,h2⟩=>?_) (xq h);obtain⟨ac,h3⟩:=h2 hb;exact⟨λ_=>ac,JW hsel l _ a' w' hB (hc.set hj) (λ_=>ac) h3⟩
  rw [if_neg hk] at hB;cases hB
theorem xF {id m:Nat}{a:Act}{w:World}{l:List Oper}(sch:List (Nat×Bool))(brk:Option Nat)(S:World->Prop)(last:Array Bool)(hm:P.follows .mixedOrders=true)
 (hB:(Region.noSelect l.toArray && decide (sch.length+m=l.length)&& decide (XY l.toArray brk sch (Array.replicate l.length false)=some last))=true) (hS:S w.drew)
 (h:yT P l.toArray (λ_ a w=>(JE brk last->S w)->yG P l.toArray (jk Q) S brk m last a w) S brk sch a w.drew):(Code.region id l.toArray true).wp P Q a w:=by
 simp only [Bool.and_eq_true,decide_eq_true_eq] at hB;obtain⟨⟨h1,h2⟩,h3⟩:=hB;have H:=JW (m:=m) h1 sch _ a w.drew h3 (q9 l) (λ_=>hS) h;rw [h2] at H;exact wp_mono (wp_region_any (Q:=jk Q) hm (by simpa using qI _ _ _ _ H)) (λe a w h=>jk.imp e a w h)
def VC(P:Program)(ops:Array Oper)(Q:Exit->Act->World->Prop)(S:World->Prop)(brk:Option Nat)(m:Nat)(listed:Array Bool)(a:Act)(w:World)(i:Nat):Prop:=
 wpOp P ops (λ_ _ _=>False) i (λa' w'=>(JE brk (listed.setIfInBounds i true)->S w')/\yG P ops (jk Q) S brk m (listed.setIfInBounds i true) a' w') a w
theorem zcx {m:Nat}{listed:Array Bool}{a:Act}{w:World}(i:Nat)(is:List Nat)(hk:Region.ready .any ops listed=i::is)(h:VC P ops Q S brk m listed a w i)(h2:∀j∈is,VC P ops Q S brk m listed a w j):yG P ops (jk Q) S brk (m+1) listed a w:=
 ⟨λh0=>absurd (hk.symm.trans h0) (by simp),λj hj=>by
  rw [hk] at hj
  rcases List.mem_cons.1 hj with e|e
  ·rw [e];exact xq h
  exact xq (h2 j e)⟩
theorem zcy {m:Nat}{listed:Array Bool}{a:Act}{w:World} :∀j∈([]:List Nat),VC P ops Q S brk m listed a w j:=λj hj=>by cases hj
theorem zan {m:Nat}{listed:Array Bool}{a:Act}{w:World}{i:Nat}{is:List Nat}(h:VC P ops Q S brk m listed a w i)(h2:∀j∈is,VC P ops Q S brk m listed a w j):∀j∈i::is,VC P ops Q S brk m listed a w j:=λj hj=>by
 rcases List.mem_cons.1 hj with e|e
 ·rw [e];exact h
 exact h2 j e
theorem zcz {m i:Nat}{o:Oper}{listed:Array Bool}{a:Act}{w:World}(ho:ops[i]?=some o)
 (h:∀K:Act->World->Prop,Shut (∀a' w',S w'->yG P ops (jk Q) S brk m (listed.setIfInBounds i true) a' w'->K a' w')->wpList P ops (Exit.then K (λ_ _ _=>False)) [o] a w):VC P ops Q S brk m listed a w i:=
 yU ho (λK hK=>h K (λa' w' h1 h2=>hK.out a' w' ⟨λ_=>h1,h2⟩))
theorem zcA {m i:Nat}{o:Oper}{listed:Array Bool}{a:Act}{w:World}(ho:ops[i]?=some o)(hl:i<listed.size)
 (h:∀K:Act->World->Prop,Shut (∀a' w',yG P ops (jk Q) zcv none m (listed.setIfInBounds i true) a' w'->K a' w')->wpList P ops (Exit.then K (λ_ _ _=>False)) [o] a w):VC P ops Q S (some i) m listed a w i:=
 yU ho (λK hK=>h K (λa' w' h1=>hK.out a' w' ⟨λhas=>absurd (has i rfl) (by simp [hl]),JV _ _ _ _ (by simp [hl]) h1⟩))
theorem qV {m:Nat}{listed:Array Bool}{a:Act}{w:World}(sch:List (Nat×Bool))(hB:(Region.noSelect ops && decide (sch.length=m)&& zef ops listed && VB ops brk sch listed)=true)(hS:JE brk listed->S w)
 (h:yT P ops Q S brk sch a w):yG P ops (jk Q) S brk m listed a w:=by
 simp only [Bool.and_eq_true,decide_eq_true_eq] at hB;obtain⟨⟨⟨h1,h2⟩,h3⟩,h4⟩:=hB;subst h2;exact qo h1 sch S brk listed a w h4 (zcw h3) hS h
theorem ZU {K V:Type} [DecidableEq K](i j:K)(x:V):∀l:List (K×V),zE i (put j x l)=if i=j then some x else zE i l
 | []=>by unfold put zE;rfl
 |(a,b)::l=>by
  have ih:=ZU i j x l;unfold put
  by_cases h:j=a
  ·rw [if_pos h];subst h
   unfold zE
   by_cases hi:i=j<;>simp [hi]
  rw [if_neg h]
  unfold zE;rw [ih]
  by_cases hi:i=a
  ·subst hi;rw [if_pos rfl,if_pos rfl,if_neg (λe=>h e.symm)]
  rw [if_neg hi,if_neg hi]
def za4:List Nat->List (List Nat)
 | []=>[[]]
 |i::r=>(za4 r).map (i::·)++za4 r
def zgN(listed:Array Bool)(R rest:List Nat):Array Bool:=R.foldl (λL i=>if rest.contains i then L else L.setIfInBounds i true) listed
def zeg(ops:Array Oper)(listed:Array Bool)(R:List Nat):Bool:=
 (za4 R).all λrest=>rest.isEmpty||(decide (Region.ready .any ops (zgN listed R rest)=rest)&& rest.all λi=>R.contains i && decide ((zgN listed R rest).setIfInBounds i true=zgN listed R (rest.filter (· !=i)))&&(za4 R).contains (rest.filter (· !=i))&& decide ((rest.filter (· !=i)).length+1=rest.length))
theorem zeh {m mb:Nat}{listed:Array Bool}{a:Act}{K:Type} [DecidableEq K] {enc:K->Value}(R:List Nat)(tbl:Nat->K×Value)(W0:World)(hok:zeg ops listed R=true)(htb:∀i∈R,∀j∈R,(tbl i).1=(tbl j).1->i=j)(hmb:W0.heap.size<=mb)
 (hrun:∀i∈R,∀W l,z6 W mb enc l->wpOp P ops (λ_ _ _=>False) i (λa' w'=>a'=a/\(∃o,w'=W.putObj mb o)/\z6 w' mb enc (put (tbl i).1 (tbl i).2 l)) a W)
 (hend:∀W l,z6 W mb enc l->(∀i∈R,zE (tbl i).1 l=some (tbl i).2)->Below W0.heap.size W0 W->yG P ops (jk Q) zcv none m (zgN listed R []) a W):
 ∀(n:Nat)(rest:List Nat)(W:World)(l:List (K×Value)),rest.length=n->rest∈za4 R->z6 W mb enc l->(∀i∈R,i∉rest->zE (tbl i).1 l=some (tbl i).2)->Below W0.heap.size W0 W->yG P ops (jk Q) zcv none (n+m) (zgN listed R rest) a W:=by
 intro n
 induction n with
 |zero=>
  intro rest W l hl hs hM hR hb;obtain rfl:=N9 hl;rw [Nat.zero_add];exact hend W l hM (λi hi=>hR i hi (by simp)) hb
 |succ n ih=>
  intro rest W l hl hs hM hR hb;have h1:=hok;unfold zeg at h1;rw [List.all_eq_true] at h1;have h2:=h1 rest hs;rw [Bool.or_eq_true] at h2
  rcases h2 with h2|h2
  ·have:rest=[]:=by simpa using h2
   subst this;simp at hl
  simp only [Bool.and_eq_true,decide_eq_true_eq,List.all_eq_true] at h2
  obtain⟨h3,h4⟩:=h2;rw [show n+1+m=(n+m)+1 by omega];refine⟨λh0=>(by rw [h3] at h0;subst h0;simp at hl),λi hi=>?_⟩;rw [h3] at hi;obtain⟨⟨⟨h5,h6⟩,h7⟩,h8⟩:=h4 i hi;have aa:i∈R:=by simpa using h5
  refine xq (wpOp_mono (λa' w' h=>?_) (hrun i aa W l hM));obtain⟨rfl,⟨o,rfl⟩,ad⟩:=h;refine⟨λ_=>trivial,?_⟩;rw [h6];refine ih _ _ _ (by omega) (by simpa using h7) ad (λj hj hjn=>?_) (zM hb hmb o);have ac:zE (tbl j).1 (put (tbl i).1 (tbl i).2 l)=if(tbl j).1=(tbl i).1 then some (tbl i).2 else zE (tbl j).1 l:=ZU _ _ _ l
  rw [ac]
  by_cases hji:j=i
  ·subst hji;rw [if_pos rfl]
  rw [if_neg (λe=>hji (htb j hj i aa e))]
  exact hR j hj (λh=>hjn (by simp [h,hji]))
theorem zlD {m mb:Nat}{listed:Array Bool}{a:Act}{w:World}{K:Type} [DecidableEq K] {enc:K->Value}(R:List Nat)(tbl:Nat->K×Value)(hok:(zeg ops listed R && decide (R∈za4 R)&& decide (zgN listed R R=listed))=true)(htb:∀i∈R,∀j∈R,(tbl i).1=(tbl j).1->i=j)(W0:World)(hmb:W0.heap.size<=mb)(hb0:Below W0.heap.size W0 w)
 (hM:z6 w mb enc []) (hrun:∀i∈R,∀W l,z6 W mb enc l->wpOp P ops (λ_ _ _=>False) i (λa' w'=>a'=a/\(∃o,w'=W.putObj mb o)/\z6 w' mb enc (put (tbl i).1 (tbl i).2 l)) a W)
 (hend:∀W l,z6 W mb enc l->(∀i∈R,zE (tbl i).1 l=some (tbl i).2)->Below W0.heap.size W0 W->yG P ops (jk Q) zcv none m (zgN listed R []) a W):yG P ops (jk Q) zcv none (R.length+m) listed a w:=by
 simp only [Bool.and_eq_true,decide_eq_true_eq] at hok;obtain⟨⟨h1,h2⟩,h3⟩:=hok;have:=zeh R tbl W0 h1 htb hmb hrun hend R.length R w [] rfl h2 hM (λi hi hn=>absurd hi hn) hb0
 rwa [h3] at this
end
section
open Go
theorem yO.castX {v:Int}{n:zr}(h:yO v n)(i:Int)(b:Nat)(x:List UInt8)(hb:b<18446744073709551616):yO v (yS n i b x).1:=by
 obtain⟨⟨⟨l,hi⟩,hc⟩,hk,hv⟩:=h;obtain⟨l',hs⟩:=zb3 hi i b x hb;exact⟨⟨⟨l',hs.inv⟩,zeY hc _ _ _⟩,by rw [zam];exact hk,hs.same.2.1.trans hv⟩
theorem yO.learnX {v:Int}{n:zr}(h:yO v n)(i:Int)(x:List UInt8):yO v (jg n i x).1:=by
 obtain⟨⟨⟨l,hi⟩,hc⟩,hk,hv⟩:=h;obtain⟨l',hs⟩:=YY hi i x;exact⟨⟨⟨l',hs.inv⟩,Xu hc _ _⟩,ZS _ _ _ hk,hs.same.2.1.trans hv⟩
def qC(n:Nat)(dst:Int)(s:List UInt8):Prop:=∃(kind src:Nat)(data:List UInt8),kind<=7/\src<n/\data.length<=4096/\s=(qO (qQ kind src dst data)).1
structure zmg(n:Nat)(hurt:List (Nat×Unit))(x:zf5):Prop where
 dst:0<=x.2.1/\x.2.1<n
 form:xU x.2.2=none/\x.2.2.length<=5000∨qC n x.2.1 x.2.2
 sum:zE x.1 hurt=none->qC n x.2.1 x.2.2
structure zcB(l:j8):Prop where
 inst:0<=l.inst/\l.inst<=30000
 ballot:l.ballot<18446744073709551616
 value:l.value.length<=5000
 pn:l.promised.length=16
 vn:l.voted.length=16
 pc:l.promises.length=l.promised.count true
 vc:l.votes=l.voted.count true
 ps:∀v∈l.promises,v.2.2.length<=5000
structure zu(v:Int)(k L:Nat)(S:zf):Prop where
 n0:1<=S.nodes.length/\S.nodes.length<=16
 nodes:∀(i:Nat) m,S.nodes[i]?=some m->yO v m
 seatsN:S.seats.length=S.nodes.length
 seats:∀(i:Nat) s,S.seats[i]?=some s->s.greatest<=1152921504606847008/\s.accepted<=116508/\s.delivered<=640000
 leadsN:(S.leads.map (·.1)).Nodup
 leads:∀(i:Nat) l,zE (i:Int) S.leads=some l->zcB l
 notesN:S.notes.length<=1000
 notes:∀x∈S.notes,zmg S.nodes.length S.hurt x
 ids:(S.notes.map (·.1)).Nodup
 least:∀x∈S.notes,x.1<=S.last
 last:S.last<=L
 trace:S.trace.length<=k+(S.seats.map λs=>s.accepted+s.delivered).sum
variable {v:Int}{k L:Nat}{S:zf}
theorem VD(l:List Bool)(i:Nat)(h:l[i]?.getD false=false)(hi:i<l.length):(l.set i true).count true=l.count true+1:=by
 induction l generalizing i with
 |nil=>simp at hi
 |cons b l ih=>
  cases i with
  |zero=>
   simp at h
   simp [h]
  |succ i=>
   have:=ih i (by simpa using h) (by simpa using hi);simp only [List.set_cons_succ,List.count_cons,this];omega
theorem zu.node(h:zu v k L S){i:Nat}(hi:i<S.nodes.length):S.nodes[i]?=some (zo S i)/\yO v (zo S i):=by
 have h1:S.nodes[i]?=some (zo S i):=by
  unfold zo;rw [N3 hi];rfl
 exact⟨h1,h.nodes i _ h1⟩
theorem zu.seat(h:zu v k L S){i:Nat}(hi:i<S.nodes.length):S.seats[i]?=some (jo S i):=by
 unfold jo;rw [N3 (by rw [h.seatsN];exact hi)];rfl
theorem zu.mono(h:zu v k L S){k' L':Nat}(hk:k<=k')(hL:L<=L'):zu v k' L' S:=
 ⟨h.n0,h.nodes,h.seatsN,h.seats,h.leadsN,h.leads,h.notesN,h.notes,h.ids,h.least,Nat.le_trans h.last hL,Nat.le_trans h.trace (by omega)⟩
theorem zu.setNode(h:zu v k L S)(i:Nat){m:zr}(hm:yO v m):zu v k L (setNode S i m):=by
 have hl:(Go.Proofs.YtofppfoioodblaaGreatDoor.setNode S i m).nodes.length=S.nodes.length:=by simp [Go.Proofs.YtofppfoioodblaaGreatDoor.setNode]
 refine⟨by rw [hl];exact h.n0,λj m' hj=>?_,by rw [hl];exact h.seatsN,h.seats,h.leadsN,h.leads,h.notesN,by rw [hl];exact h.notes,h.ids,h.least,h.last,h.trace⟩;have aa:(S.nodes.set i m)[j]?=some m':=hj
 by_cases hij:i=j
 ·subst hij
  have ac:=(N6.1 aa).1;rw [List.length_set] at ac;rw [List.getElem?_set_self ac] at aa
  cases aa;exact hm
 rw [List.getElem?_set_ne hij] at aa
 exact h.nodes j m' aa
theorem ziQ {l:List jN}{i:Nat}{s s':jN}(f:jN->Nat)(h:l[i]?=some s):((l.set i s').map f).sum+f s=(l.map f).sum+f s':=by
 induction l generalizing i with
 |nil=>simp at h
 |cons a l ih=>
  cases i with
  |zero=>simp at h;subst h;simp;omega
  |succ i=>
   have:=ih (i:=i) (by simpa using h);simp only [List.set_cons_succ,List.map_cons,List.sum_cons];omega
theorem zu.setSeat(h:zu v k L S){i:Nat}(hi:i<S.nodes.length)(s':jN)(h1:s'.greatest<=1152921504606847008/\s'.accepted=(jo S i).accepted/\s'.delivered=(jo S i).delivered):zu v k L (setSeat S i s'):=by
 have hs:=h.seat hi;have hb:=h.seats i _ hs;have ac:=ziQ (s':=s') (λs=>s.accepted+s.delivered) hs;refine⟨h.n0,h.nodes,by simpa [Go.Proofs.YtofppfoioodblaaGreatDoor.setSeat] using h.seatsN,λj s hj=>?_,h.leadsN,h.leads,h.notesN,h.notes,h.ids,h.least,h.last,?_⟩
 ·have aa:(S.seats.set i s')[j]?=some s:=hj
  by_cases hij:i=j
  ·subst hij
   rw [List.getElem?_set_self (by rw [h.seatsN];exact hi)] at aa
   cases aa
   rw [h1.2.1,h1.2.2];exact⟨h1.1,hb.2⟩
  rw [List.getElem?_set_ne hij] at aa;exact h.seats j s aa
 have ht:=h.trace
 show S.trace.length<=k+((S.seats.set i s').map λs=>s.accepted+s.delivered).sum
 rw [h1.2.1,h1.2.2] at ac;omega
theorem zu.stale(h:zu v k L S){i:Nat}(hi:i<S.nodes.length):zu v k L (xn S i):=h.setSeat hi _ ⟨(h.seats i _ (h.seat hi)).1,rfl,rfl⟩
theorem ziR {K V:Type} [DecidableEq K] {i:K}{x:V}{q:K×V} :∀ {l:List (K×V)},q∈put i x l->q=(i,x)∨q∈l
 | [],h=>by unfold put at h;simpa using h
 |(a,b)::l,h=>by
  unfold put at h
  split at h
  ·rcases List.mem_cons.1 h with h|h
   ·exact .inl h
   exact .inr (U7 _ h)
  rcases List.mem_cons.1 h with h|h
  ·exact .inr (by rw [h];exact List.mem_cons_self ..)
  rcases ziR h with h|h
  ·exact .inl h
  exact .inr (U7 _ h)
theorem XZ {K V:Type} [DecidableEq K](i:K)(x:V):∀ {l:List (K×V)},(l.map (·.1)).Nodup->((put i x l).map (·.1)).Nodup
 | [],_=>by simp [put]
 |(a,b)::l,h=>by
  simp only [List.map_cons,List.nodup_cons] at h;unfold put
  split
  ·rename_i e;subst e;simpa using h
  rename_i e
  simp only [List.map_cons,List.nodup_cons];refine⟨λhm=>?_,XZ i x h.2⟩;obtain⟨q,hq,he⟩:=List.mem_map.1 hm
  rcases ziR hq with h1|h1
  ·subst h1;exact e he
  exact h.1 (List.mem_map.2 ⟨q,h1,he⟩)
theorem zfm {K V:Type} [DecidableEq K](i:K):∀(l:List (K×V)),(del i l).Sublist l
 | []=>List.Sublist.refl _
 |(a,b)::l=>by
  unfold del
  split
  ·exact List.sublist_cons_self _ _
  exact(zfm i l).cons_cons _
theorem zcC {K V:Type} [DecidableEq K](i:K){l:List (K×V)}(h:(l.map (·.1)).Nodup):((del i l).map (·.1)).Nodup:=h.sublist ((zfm i l).map _)
theorem zcD {K V:Type} [DecidableEq K] {i:K} :∀ {l:List (K×V)},i∉l.map (·.1)->zE i l=none
 | [],_=>rfl
 |(a,b)::l,h=>by
  unfold zE;rw [if_neg (λe=>h (by simp [e]))];exact zcD (λe=>h (by simp only [List.map_cons,List.mem_cons];exact .inr e))
theorem Zo {K V:Type} [DecidableEq K](i j:K):∀ {l:List (K×V)},(l.map (·.1)).Nodup->zE i (del j l)=if i=j then none else zE i l
 | [],_=>by unfold del zE;split<;>rfl
 |(a,b)::l,h=>by
  simp only [List.map_cons,List.nodup_cons] at h;unfold del
  by_cases hj:j=a
  ·rw [if_pos hj];subst hj
   by_cases hi:i=j
   ·rw [if_pos hi];subst hi;exact zcD h.1
   rw [if_neg hi];conv=>rhs;unfold zE
   rw [if_neg hi]
  rw [if_neg hj]
  unfold zE;rw [Zo i j h.2]
  by_cases hi:i=a
  ·rw [if_pos hi,if_pos hi,if_neg (λe=>hj (e.symm.trans hi))]
  rw [if_neg hi,if_neg hi]
theorem zu.setLeads(h:zu v k L S){ld:List (Int×j8)}(hn:(ld.map (·.1)).Nodup)(hl:∀(i:Nat) l,zE (i:Int) ld=some l->zcB l):zu v k L {S with leads:=ld} :=
 ⟨h.n0,h.nodes,h.seatsN,h.seats,hn,hl,h.notesN,h.notes,h.ids,h.least,h.last,h.trace⟩
theorem zu.putLead(h:zu v k L S)(i:Nat){l:j8}(hl:zcB l):zu v k L {S with leads:=put (i:Int) l S.leads} :=
 h.setLeads (XZ _ _ h.leadsN) λj l' hj=>by
  rw [ZU] at hj
  split at hj
  ·cases hj;exact hl
  exact h.leads j l' hj
theorem zu.delLead(h:zu v k L S)(i:Int):zu v k L {S with leads:=del i S.leads} :=
 h.setLeads (zcC _ h.leadsN) λj l' hj=>by
  rw [Zo _ _ h.leadsN] at hj
  split at hj
  ·cases hj
  exact h.leads j l' hj
end
section
open Go Go.RowKit Go.Shelf Go.Extern.Stop Go.Stop Go.Extern
attribute [local go_sem] Oper.semAt_some zB zp
theorem X0(e:jH):(ZK e).1.length<=4000:=by
 unfold ZK jC;simp only
 repeat' split
 all_goals (simp at*;try omega)
theorem VE(era:ZA):∀(l p:List zA)(r:List UInt8×Bool),r.1.length<=4000->(yv era p l r).1.length<=4000
 | [],p,r,h=>by unfold yv;exact h
 |m::l,p,r,h=>by
  unfold yv
  split
  ·exact VE era l _ _ (X0 _)
  exact h
end
open Go
variable {v:Int}{k L:Nat}{S:zf}
theorem X2 {K V:Type} [DecidableEq K] {i j:K}(h:i≠j):∀(l:List (K×V)),zE i (del j l)=zE i l
 | []=>rfl
 |(a,b)::l=>by
  unfold del
  by_cases hj:j=a
  ·rw [if_pos hj];subst hj
   conv=>rhs;unfold zE
   rw [if_neg h]
  rw [if_neg hj]
  unfold zE;rw [X2 h l]
theorem zao {f:y8}(h:Yn f=true):f.data.length<=4096:=by
 unfold Yn at h;simp only [Bool.and_eq_true,decide_eq_true_eq] at h;exact h.1.1.1.1.1.2
theorem Va {f:y8}(h:(qO f).2=0):Yn f=true:=by
 unfold qO at h
 split at h
 ·simp at h
 rename_i h1;simpa using h1
theorem zky {f:y8}(h:(qO f).2=0):(qO f).1.length<=5000:=by
 have hd:=zao (Va h);have hr:=Va h;unfold qO;rw [if_neg (by rw [hr];simp)];unfold Zb;simp only [N1,jd,List.length_cons,List.length_nil]
 split<;>simp [jd] <;>omega
theorem qC.dec {n:Nat}{dst:Int}{s:List UInt8}(h:qC n dst s)(hn:n<=16)(hd:0<=dst/\dst<n):s.length<=5000/\(xU s).isSome/\∃(kind src:Nat)(data:List UInt8),kind<=7/\src<n/\data.length<=4096/\zf4 s=(qQ kind src dst data,0)/\s=(qO (qQ kind src dst data)).1:=by
 obtain⟨kind,src,data,h1,h2,h3,rfl⟩:=h;have aa:=zdM (kind:=(kind:Int)) (src:=(src:Int)) (dst:=dst) (data:=data) (by omega) (by omega) (by omega) (by omega) hd.1 (by omega) h3;refine⟨zky aa.1,?_,kind,src,data,h1,h2,h3,aa.2,rfl⟩;have ho:=aa.2;unfold zf4 at ho
 cases hq:xU (qO (qQ (kind:Int) (src:Int) dst data)).1 with
 |none=>rw [hq] at ho;simp at ho
 |some b=>rfl
theorem qD(S:zf)(d:Int)(s:List UInt8):(yB S d s).1.nodes=S.nodes/\(yB S d s).1.seats=S.seats/\(yB S d s).1.leads=S.leads/\(yB S d s).1.trace=S.trace/\(yB S d s).1.hurt=S.hurt:=by
 unfold yB
 split<;>exact⟨rfl,rfl,rfl,rfl,rfl⟩
theorem x9(S:zf)(f:y8):(vp S f).nodes=S.nodes/\(vp S f).seats=S.seats/\(vp S f).leads=S.leads/\(vp S f).trace=S.trace/\(vp S f).hurt=S.hurt:=by
 unfold vp
 split
 ·exact qD _ _ _
 exact⟨rfl,rfl,rfl,rfl,rfl⟩
theorem zu.launch(h:zu v k L S)(hL:L<=4000000000){d:Int}{s:List UInt8}(hd:0<=d/\d<S.nodes.length)(hf:xU s=none/\s.length<=5000∨qC S.nodes.length d s)(hurt':List (Nat×Unit))
 (hh:∀i,zE i hurt'=none->zE i S.hurt=none) (hsum:zE (S.last+1) hurt'=none->qC S.nodes.length d s) (hroom:S.notes.length<1000):
 (yB S d s).2=(S.last+1,0)/\zu v k (L+1) {(yB S d s).1 with hurt:=hurt'} :=by
 have hw:(S.last+1)% 4294967296=S.last+1:=Nat.mod_eq_of_lt (by have:=h.last;omega);unfold yB;rw [if_neg (by omega),hw];refine⟨rfl,h.n0,h.nodes,h.seatsN,h.seats,h.leadsN,h.leads,?_,λx hx=>?_,?_,λx hx=>?_,?_,h.trace⟩
 ·show(S.notes++ [_]).length<=1000
  rw [N1,U2];omega
 ·rcases List.mem_append.1 hx with hx|hx
  ·have:=h.notes x hx
   exact⟨this.dst,this.form,λe=>this.sum (hh _ e)⟩
  rw [List.mem_singleton] at hx
  subst hx;exact⟨hd,hf,hsum⟩
 ·show((S.notes++ [(S.last+1,d,s)]).map (·.1)).Nodup
  rw [List.map_append,List.nodup_append];refine⟨h.ids,by simp,λa ha b hb=>?_⟩;obtain⟨x,hx,rfl⟩:=List.mem_map.1 ha;have h1:=h.least x hx;simp at hb
  omega
 ·rcases List.mem_append.1 hx with hx|hx
  ·have:=h.least x hx
   show x.1<=S.last+1
   omega
  rw [List.mem_singleton] at hx
  subst hx;exact N0 _
 have:=h.last
 show S.last+1<=L+1
 omega
theorem zu.send(h:zu v k L S)(hL:L<=4000000000){kind src dst inst:Int}{ballot:Nat}{more:List UInt8}(hk:0<=kind/\kind<=7)(hs:0<=src/\src<S.nodes.length)(hd:0<=dst/\dst<S.nodes.length):
 zu v k (L+1) (vp S (jn kind src dst inst ballot more)):=by
 have hn:=h.n0;unfold vp
 split
 ·rename_i he
  have hl:=zao (Va he)
  have aa:qC S.nodes.length dst (qO (jn kind src dst inst ballot more)).1:=⟨kind.toNat,src.toNat,(jn kind src dst inst ballot more).data,by omega,by omega,hl,by
   rw [show((kind.toNat:Nat):Int)=kind by omega,show((src.toNat:Nat):Int)=src by omega];rfl⟩
  by_cases hr:1000<=S.notes.length
  ·unfold yB;rw [if_pos hr];exact h.mono (N0 _) (by omega)
  have h1:=(h.launch hL (s:=(qO (jn kind src dst inst ballot more)).1) (d:=dst) hd (.inr aa) S.hurt (λ_ e=>e) (λ_=>aa) (by omega)).2
  rw [← (qD S dst (qO (jn kind src dst inst ballot more)).1).2.2.2.2] at h1;exact h1
 exact h.mono (N0 _) (by omega)
theorem zu.sends {kind src inst:Int}{ballot:Nat}{more:List UInt8}(hk:0<=kind/\kind<=7):∀(js:List Nat)(L:Nat)(S:zf),zu v k L S->L+js.length<=4000000000->0<=src/\src<S.nodes.length->(∀j∈js,j<S.nodes.length)->
 zu v k (L+js.length) (js.foldl (λw (i:Nat)=>vp w (jn kind src i inst ballot more)) S)
 | [],L,S,h,_,_,_=>h
 |j::js,L,S,h,hL,hs,hj=>by
  have hjl:=hj j (List.mem_cons_self ..);simp only [List.length_cons] at hL⊢;have h1:=h.send (by omega) (kind:=kind) (src:=src) (dst:=(j:Int)) (inst:=inst) (ballot:=ballot) (more:=more) hk hs ⟨by omega,by omega⟩;have hn:=(x9 S (jn kind src j inst ballot more)).1;have h2:=zu.sends (inst:=inst) (ballot:=ballot) (more:=more) hk js (L+1) _ h1 (by omega) (by rw [hn];exact hs) (λi hi=>by rw [hn];exact hj i (U7 _ hi));rw [show L+(js.length+1)=L+1+js.length by omega];exact h2
theorem zu.sendAll(h:zu v k L S)(hL:L<=3000000000){kind src inst:Int}{ballot:Nat}{more:List UInt8}(hk:0<=kind/\kind<=7)(hs:0<=src/\src<S.nodes.length):zu v k (L+16) (j9 S kind src inst ballot more):=by
 have hn:=h.n0;have:=zu.sends (kind:=kind) (src:=src) (inst:=inst) (ballot:=ballot) (more:=more) hk (List.range S.nodes.length) L S h (by simp;omega) hs (λj hj=>List.mem_range.1 hj);rw [List.length_range] at this;exact this.mono (N0 _) (by omega)
theorem ziS(n:Nat)(ps:List jw)(own:List UInt8)(ho:own.length<=5000)(hp:∀x∈ps,x.2.2.length<=5000):(Zh n ps own).1.length<=5000:=by
 unfold Zh
 split
 ·simp
 split
 ·simp
 have:∀(l:List jw)(x:jw),(∀y∈l,y.2.2.length<=5000)->x.2.2.length<=5000->(l.foldl (λ(b:jw) y=>if b.2.1<y.2.1 then y else b) x).2.2.length<=5000:=by
  intro l
  induction l with
  |nil=>intro x _ h;exact h
  |cons y l ih=>
   intro x hy hx;rw [List.foldl_cons];refine ih _ (λz hz=>hy z (U7 _ hz)) ?_
   split
   ·exact hy y (List.mem_cons_self ..)
   exact hx
 exact this ps (0,0,own) hp ho
theorem zu.countPromise(h:zu v k L S)(hL:L<=3000000000){i src:Nat}(hi:i<S.nodes.length)(hs:src<S.nodes.length)(inst:Int){ballot:Nat}(_hb:ballot<18446744073709551616){more:List UInt8}(hm:more.length<=5000):
 zu v k (L+16) (countPromise S i src inst ballot more):=by
 have hn:=h.n0;unfold Go.Proofs.YtofppfoioodblaaGreatDoor.countPromise
 cases hl:zE (i:Int) S.leads with
 |none=>exact h.mono (N0 _) (by omega)
 |some l=>
  have hg:=h.leads i l hl;simp only
  split
  ·exact h.mono (N0 _) (by omega)
  rename_i hc
  simp only [not_or,Bool.not_eq_true] at hc;obtain⟨c1,c2,c3,c4,c5⟩:=hc;have ac:src<l.promised.length:=by rw [hg.pn];omega
  have aa:zcB {l with promised:=l.promised.set src true,promises:=l.promises++ [(ballot,z8 more 0+4294967296*z8 more 4,more.drop 8)] } :=
   ⟨hg.inst,hg.ballot,hg.value,by simp [hg.pn],hg.vn,by simp only [N1,U2,VD _ _ c4 ac,hg.pc],hg.vc,λy hy=>by
    rcases List.mem_append.1 hy with hy|hy
    ·exact hg.ps y hy
    rw [List.mem_singleton] at hy;subst hy;simp;omega⟩
  split
  ·exact(h.putLead i aa).mono (N0 _) (by omega)
  split
  ·exact(h.putLead i aa).mono (N0 _) (by omega)
  refine(h.putLead i ?_).sendAll hL ⟨by omega,by omega⟩ ⟨by omega,by show(i:Int)<S.nodes.length;omega⟩
  exact⟨hg.inst,hg.ballot,ziS _ _ _ hg.value aa.ps,aa.pn,aa.vn,aa.pc,aa.vc,aa.ps⟩
theorem zu.countVote(h:zu v k L S)(hL:L<=3000000000){i src:Nat}(hi:i<S.nodes.length)(hs:src<S.nodes.length)(inst:Int)(ballot:Nat):
 zu v k (L+16) (countVote S i src inst ballot):=by
 have hn:=h.n0;unfold Go.Proofs.YtofppfoioodblaaGreatDoor.countVote
 cases hl:zE (i:Int) S.leads with
 |none=>exact h.mono (N0 _) (by omega)
 |some l=>
  have hg:=h.leads i l hl;simp only
  split
  ·exact h.mono (N0 _) (by omega)
  rename_i hc
  simp only [not_or,Bool.not_eq_true] at hc;obtain⟨c1,c2,c3,c4⟩:=hc;have ac:src<l.voted.length:=by rw [hg.vn];omega
  have aa:zcB {l with voted:=l.voted.set src true,votes:=l.votes+1} :=
   ⟨hg.inst,hg.ballot,hg.value,hg.pn,by simp [hg.vn],hg.pc,by simp only [VD _ _ c4 ac,hg.vc],hg.ps⟩
  split
  ·exact(h.putLead i aa).mono (N0 _) (by omega)
  refine(h.putLead i ?_).sendAll hL ⟨by omega,by omega⟩ ⟨by omega,by show(i:Int)<S.nodes.length;omega⟩
  exact⟨aa.inst,aa.ballot,aa.value,aa.pn,aa.vn,aa.pc,aa.vc,aa.ps⟩
theorem zu.answer(h:zu v k L S)(hL:L<=3000000000){i:Nat}(hi:i<S.nodes.length){f:y8}(hs:0<=f.src/\f.src<S.nodes.length)(inst:Int){ballot:Nat}(hb:ballot<18446744073709551616)(more:List UInt8):
 zu v k (L+16) (yZ S i f inst ballot more):=by
 have ac:0<=(i:Int)/\(i:Int)<S.nodes.length:=⟨by omega,by omega⟩;have hg:=(h.node hi).2;unfold yZ
 split
 ·exact(h.send (by omega) ⟨by omega,by omega⟩ ac hs).mono (N0 _) (by omega)
 split
 ·simp only
  have h1:=h.setNode i (hg.castX inst ballot more hb);have aa:(Go.Proofs.YtofppfoioodblaaGreatDoor.setNode S i (yS (zo S i) inst ballot more).1).nodes.length=S.nodes.length:=by simp [Go.Proofs.YtofppfoioodblaaGreatDoor.setNode]
  split
  ·exact(h1.send (by omega) ⟨by omega,by omega⟩ (by rw [aa];exact ac) (by rw [aa];exact hs)).mono (N0 _) (by omega)
  exact h1.mono (N0 _) (by omega)
 simp only
 have h1:=h.setNode i (hg.promise inst ballot hb);have aa:(Go.Proofs.YtofppfoioodblaaGreatDoor.setNode S i (zC (zo S i) inst ballot).1).nodes.length=S.nodes.length:=by simp [Go.Proofs.YtofppfoioodblaaGreatDoor.setNode]
 split
 ·exact(h1.send (by omega) ⟨by omega,by omega⟩ (by rw [aa];exact ac) (by rw [aa];exact hs)).mono (N0 _) (by omega)
 exact h1.mono (N0 _) (by omega)
theorem zu.receive(h:zu v k L S)(hL:L<=3000000000){i:Nat}(hi:i<S.nodes.length){f:y8}(hs:0<=f.src/\f.src<S.nodes.length)(hd:f.data.length<=4096):zu v k (L+16) (yN S i f):=by
 have b1:=xx ((f.data.drop 4).take 4);have b2:=xx ((f.data.drop 8).take 4);have hb:z8 f.data 4+4294967296*z8 f.data 8<18446744073709551616:=by unfold z8;omega
 unfold yN
 split
 ·exact h.mono (N0 _) (by omega)
 simp only
 split
 ·exact h.answer hL hi hs _ hb _
 split
 ·exact h.countPromise hL hi (by omega) _ hb (by rw [U3];omega)
 split
 ·exact h.countVote hL hi (by omega) _ _
 split
 ·exact((h.stale hi).setNode i ((h.node hi).2.learnX _ _)).mono (N0 _) (by omega)
 exact h.mono (N0 _) (by omega)
theorem zu.erase(h:zu v k L S){p:Nat}{x:zf5}(hx:S.notes[p]?=some x):zu v k L {S with notes:=S.notes.eraseIdx p,hurt:=del x.1 S.hurt} :=by
 have aa:=List.eraseIdx_sublist S.notes p;refine⟨h.n0,h.nodes,h.seatsN,h.seats,h.leadsN,h.leads,Nat.le_trans aa.length_le h.notesN,λy hy=>?_,h.ids.sublist (aa.map _),λy hy=>h.least y (aa.subset hy),h.last,h.trace⟩;have ae:=h.notes y (aa.subset hy);refine⟨ae.dst,ae.form,λe=>ae.sum ?_⟩
 have af:y.1≠x.1:=λe=>by
  obtain⟨j,hj⟩:=List.mem_iff_getElem?.1 hy;rw [List.getElem?_eraseIdx] at hj;have hp:=h.ids;rw [List.nodup_iff_pairwise_ne,List.pairwise_iff_getElem] at hp;have ad:=(N6.1 hx)
  split at hj
  ·rename_i hjp
   have ac:=(N6.1 hj);have:=hp j p (by simpa using ac.1) (by simpa using ad.1) hjp;simp [ac.2,ad.2,e] at this
  rename_i hjp
  have ac:=(N6.1 hj);have:=hp p (j+1) (by simpa using ad.1) (by simpa using ac.1) (by omega);simp [ac.2,ad.2,e] at this
 rwa [X2 af] at e
theorem zu.take(h:zu v k L S)(hL:L<=3000000000)(p:Int):zu v k (L+16) (xR S p).1:=by
 unfold xR
 split
 ·exact h.mono (N0 _) (by omega)
 split
 ·exact h.mono (N0 _) (by omega)
 rename_i id dst s hx
 have h1:=h.erase hx;have aa:=h.notes _ (List.mem_of_getElem? hx);simp only
 split
 ·rename_i hc
  have hd:0<=dst/\dst<(S.nodes.length:Int):=aa.dst
  rcases aa.form with hf|hf
  ·exfalso
   have h2:=hc.1;unfold zf4 at h2;rw [hf.1] at h2;simp at h2
  obtain⟨-, -,kind,src,data,k1,k2,k3,k4, -⟩:=hf.dec h.n0.2 aa.dst
  rw [k4];exact h1.receive hL (by show dst.toNat<S.nodes.length;omega) ⟨by show 0<=(src:Int);omega,by show(src:Int)<(S.nodes.length:Int);omega⟩ k3
 exact h1.mono (N0 _) (by omega)
theorem yO.few {n:zr}(h:yO v n):n.acc.length<=116508/\n.loc.log.length<=640000:=by
 have hb:=h.ok.bounds;have:=hb.2.2.2.len;omega
theorem zu.tellOne(h:zu v k L S)(d:Bool){i:Nat}(hi:i<S.nodes.length):zu v k L (tellOne S d i):=by
 have hs:=h.seat hi;have hb:=h.seats i _ hs;have hf:=(h.node hi).2.few;have ht:=h.trace
 have ac:∀(s':jN)(tr:List xV),s'.greatest=(jo S i).greatest->s'.accepted<=116508->s'.delivered<=640000->tr.length+((jo S i).accepted+(jo S i).delivered)<=s'.accepted+s'.delivered->zu v k L {Go.Proofs.YtofppfoioodblaaGreatDoor.setSeat S i s' with trace:=S.trace++tr} :=by
  intro s' tr h1 h2 h3 h4;have ad:=ziQ (s':=s') (λs=>s.accepted+s.delivered) hs;refine⟨h.n0,h.nodes,by simpa [Go.Proofs.YtofppfoioodblaaGreatDoor.setSeat] using h.seatsN,λj s hj=>?_,h.leadsN,h.leads,h.notesN,h.notes,h.ids,h.least,h.last,?_⟩
  ·have aa:(S.seats.set i s')[j]?=some s:=hj
   by_cases hij:i=j
   ·subst hij
    rw [List.getElem?_set_self (by rw [h.seatsN];exact hi)] at aa
    cases aa
    rw [h1];exact⟨hb.1,h2,h3⟩
   rw [List.getElem?_set_ne hij] at aa;exact h.seats j s aa
  show(S.trace++tr).length<=k+((S.seats.set i s').map λs=>s.accepted+s.delivered).sum
  rw [N1];omega
 unfold Go.Proofs.YtofppfoioodblaaGreatDoor.tellOne;simp only
 split
 ·split
  ·refine ac _ _ rfl hb.2.1 ?_ ?_
   ·show max _ _<=_;omega
   rw [List.length_map,U3]
   show _<=(jo S i).accepted+max _ _
   omega
  refine ac _ _ rfl ?_ hb.2.2 ?_
  ·show max _ _<=_;omega
  rw [List.length_map,U3]
  show _<=max _ _+(jo S i).delivered
  omega
 exact h
theorem YC(S:zf)(d:Bool)(i:Nat):(tellOne S d i).nodes=S.nodes:=by
 unfold tellOne;simp only
 split
 ·split<;>rfl
 rfl
theorem zu.tells(d:Bool):∀(js:List Nat)(S:zf),zu v k L S->(∀j∈js,j<S.nodes.length)->zu v k L (js.foldl (λw i=>Go.Proofs.YtofppfoioodblaaGreatDoor.tellOne w d i) S)
 | [],S,h,_=>h
 |j::js,S,h,hj=>by
  rw [List.foldl_cons];exact zu.tells d js _ (h.tellOne d (hj j (List.mem_cons_self ..))) (λi hi=>by rw [YC];exact hj i (U7 _ hi))
theorem qp(d:Bool):∀(js:List Nat)(S:zf),(js.foldl (λw i=>tellOne w d i) S).nodes=S.nodes
 | [],_=>rfl
 |j::js,S=>by rw [List.foldl_cons,qp d js,YC]
theorem zu.tell(h:zu v k L S):zu v k L (vq S):=by
 unfold vq;have h1:=zu.tells false (List.range S.nodes.length) S h (λj hj=>List.mem_range.1 hj);exact zu.tells true _ _ h1 (λj hj=>by rw [qp];exact List.mem_range.1 hj)
theorem zcE(known:List (Int×List UInt8)):∀(f i:Nat),Jy known f i<=i+f
 |0,i=>N0 _
 |f+1,i=>by
  unfold Jy
  split
  ·have:=zcE known f (i+1);omega
  omega
theorem yO.next {n:zr}(h:yO v n):yM n<=30000:=by
 have:=zcE n.pax.known 10001 (n.applied+1);have hb:=h.ok.bounds;unfold yM;omega
theorem YD(n:zr):(jX n).1.length<=4000:=by
 unfold jX
 split
 ·simp
 split
 ·exact X0 _
 split
 ·exact X0 _
 exact VE _ _ _ _ (by simp)
theorem za5 {b node:Nat}(_:(jB b node).2=0):(jB b node).1<=1152921504606847008:=by
 unfold jB
 split
 ·omega
 rename_i h
 split<;>simp only<;>omega
theorem zu.propose(h:zu v k L S)(hL:L<=3000000000){i:Nat}(hi:i<S.nodes.length):zu v k (L+16) (yw S i).1:=by
 unfold yw
 split
 ·exact h.mono (N0 _) (by omega)
 split
 ·exact h.mono (N0 _) (by omega)
 rename_i hb
 have ac:(jB (jo S i).greatest i).2=0:=by simpa using hb
 have aa:=za5 ac;simp only;have ad:=(h.node hi).2.next;have h1:=h.setSeat hi {jo S i with greatest:=(jB (jo S i).greatest i).1} ⟨aa,rfl,rfl⟩
 have h2:=h1.putLead i (l:={inst:=yM (zo S i),ballot:=(jB (jo S i).greatest i).1,value:=(jX (zo S i)).1,promises:=[],promised:=List.replicate 16 false,voted:=List.replicate 16 false,votes:=0,asked:=false,told:=false})
  ⟨⟨by show 0<=((yM (zo S i):Nat):Int);omega,by show((yM (zo S i):Nat):Int)<=30000;omega⟩,by show(jB _ _).1<_;omega,Nat.le_trans (YD _) (by omega),by simp,by simp,by simp,by simp,by simp⟩
 exact h2.sendAll hL ⟨by omega,by omega⟩ ⟨by omega,by show(i:Int)<S.nodes.length;omega⟩
def zcF(k:Int):Prop:=k=1∨k=2∨k=3∨k=9∨k=10
theorem zu.deedA(h:zu v k L S)(hL:L<=3000000000)(o:OpD)(hs:o.s.length<=300)(hk:zcF o.kind)(hi:o.kind≠3->o.node.toNat<S.nodes.length):zu v k (L+16) (yg S (zk v) o).1:=by
 have h0:=h.mono (N0 k) (show L<=L+16 by omega);unfold yg;simp only
 rcases hk with e|e|e|e|e<;>have hl:=hi<;>(repeat rw [if_neg (by omega)])<;>rw [if_pos e]
 ·exact(h0.stale (hl (by omega))).setNode _ ((h.node (hl (by omega))).2.broadcast _ hs)
 ·exact h.propose hL (hl (by omega))
 ·exact h.take hL _
 ·exact((h0.stale (hl (by omega))).delLead _).setNode _ ((h.node (hl (by omega))).2.recover)
 exact h0.setNode _ ((h.node (hl (by omega))).2.want _)
theorem zu.deedB(h:zu v k L S)(o:OpD)(hk:o.kind=7∨o.kind=8)(hi:o.node.toNat<S.nodes.length):zu v k (L+16) (yg S (zk v) o).1:=by
 have h0:=h.mono (N0 k) (show L<=L+16 by omega);unfold yg;simp only
 rcases hk with e|e<;>(repeat rw [if_neg (by omega)])<;>rw [if_pos e]
 ·exact(h0.delLead _).setNode _ ((h.node hi).2.crash)
 exact h0.setNode _ ((h.node hi).2.cut _)
theorem zu.does_of(h:zu v k L S)(s:StD)(o:OpD)(hd:1<=o.kind/\o.kind<=10->(¬(3<=o.kind/\o.kind<=6)->o.node.toNat<S.nodes.length)->zu v k (L+16) (yg S s o).1):zu v (k+1) (L+16) (doW s S o).1:=by
 unfold doW
 split
 ·exact h.mono (by omega) (by omega)
 split
 ·exact h.mono (by omega) (by omega)
 rename_i h1 h2
 have ht:=(hd (by omega) (λhk=>by
  have:¬(o.node<0∨(S.nodes.length:Int)<=o.node):=λe=>h2 ⟨hk,e⟩
  omega)).tell
 simp only
 split
 ·refine⟨ht.n0,ht.nodes,ht.seatsN,ht.seats,ht.leadsN,ht.leads,ht.notesN,ht.notes,ht.ids,ht.least,ht.last,?_⟩
  have:=ht.trace
  show((vq _).trace++ [_]).length<=_
  rw [N1,U2]
  show _<=k+1+((vq (yg S s o).1).seats.map λs=>s.accepted+s.delivered).sum
  omega
 exact ht.mono (by omega) (N0 _)
theorem zu.doesA(h:zu v k L S)(hL:L<=3000000000)(o:OpD)(hs:o.s.length<=300)(hk:zcF o.kind):zu v (k+1) (L+16) (doW (zk v) S o).1:=
 h.does_of _ o (λ_ hi=>h.deedA hL o hs hk (λh3=>hi (by unfold zcF at hk;omega)))
theorem zu.doesB(h:zu v k L S)(o:OpD)(hk:o.kind=7∨o.kind=8):zu v (k+1) (L+16) (doW (zk v) S o).1:=
 h.does_of _ o (λ_ hi=>h.deedB o hk (hi (by omega)))
theorem zcG {v cap:Int}{n:Nat}(hn:1<=n/\n<=16)(h1:64<=cap)(h2:cap<=1048576):zu v 0 0 (Z7 n v cap (zk v)):=by
 have hl:(Z7 n v cap (zk v)).nodes.length=n:=by simp [Z7]
 refine⟨by rw [hl];exact hn,λi m hm=>?_,by rw [hl];simp [Z7],λi s hs=>?_,by simp [Z7],λi l hi=>?_,by simp [Z7],λx hx=>?_,by simp [Z7],λx hx=>?_,N0 _,by simp [Z7]⟩
 ·have ac:((List.range n).map λ(i:Nat)=>zhv i v cap [] (zk v))[i]?=some m:=hm
  rw [List.getElem?_map] at ac;obtain⟨j, -,rfl⟩:=Option.map_eq_some_iff.1 ac;exact yO.new h1 h2
 ·have aa:(List.replicate n yA)[i]?=some s:=hs
  rw [List.getElem?_replicate] at aa
  split at aa
  ·cases aa;exact⟨by simp [yA],by simp [yA],by simp [yA]⟩
  cases aa
 ·simp [Z7,zE] at hi
 ·simp [Z7] at hx
 simp [Z7] at hx
