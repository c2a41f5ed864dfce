/- PARTS OF THE PROOF. -/
import Derived.RangeFuncNested
import Derived.RangeFuncBound
import Derived.RangeFuncCalls
import Derived.RangeFuncLeaves
import Derived.Shelf.Abstract
import Derived.Shelf.RegionOpen
import Derived.WalkKit
import Derived.OwnWalkIn
import Derived.TacticsInMore
import Derived.LoopNIn
import Derived.LoopIn
import Derived.WalkSmall
import Derived.OpenVars
import Derived.ProofKit
import Derived.RowKitTokens
import Derived.Outline
import Derived.LaidEql
import Derived.BigQuiet
import Derived.Deep.QuietTactic
import Derived.Laws.BytesArg
import Derived.Test.YtofppfoioodblaaGreatDoorProg
set_option maxRecDepth 8000
set_option maxHeartbeats 4000000
open Go.Proofs.Tryz
namespace Go.Proofs.YtofppfoioodblaaGreatDoor
section
open Go Go.RowKit
abbrev N0:= @Nat.le_refl
abbrev N1:= @List.length_append.{0}
abbrev N2:= @Below.refl
abbrev N3:= @List.getElem?_eq_getElem.{0}
abbrev N4:= @Below.heap_setCell
abbrev N5:= @Array.getElem?_eq_some_iff.{0}
abbrev N6:= @List.getElem?_eq_some_iff.{0}
abbrev N7:= @List.length_take.{0}
abbrev N8:= @IntKind.wrap_i64
abbrev N9:= @List.eq_nil_of_length_eq_zero.{0}
abbrev U0:= @List.prefix_refl.{0}
abbrev U1:= @World.putObj_heap_other
abbrev U2:= @List.length_singleton.{0}
abbrev U3:= @List.length_drop.{0}
abbrev U4:= @Below.heap_alloc
abbrev U5:= @List.flatMap_append.{0,0}
abbrev U6:= @List.getElem?_append_right.{0}
abbrev U7:= @List.mem_cons_of_mem.{0}
abbrev U8:= @List.getElem?_append_left.{0}
structure Mod(X:Nat->Prop)(W W':World):Prop where
 os:W'.os=W.os
 tape:W'.tape=W.tape
 output:W'.output=W.output
 size:W.heap.size<=W'.heap.size
 block:∀k,k<W.heap.size->¬X k->W'.heap[k]?=W.heap[k]?
theorem Mod.refl(X:Nat->Prop)(W:World):Mod X W W:=⟨rfl,rfl,rfl,N0 _,λ_ _ _=>rfl⟩
theorem Mod.trans {X Y Z:Nat->Prop}{A B C:World}(h:Mod X A B)(k:Mod Y B C)(hx:∀i,i<A.heap.size->X i->Z i)(hy:∀i,i<A.heap.size->Y i->Z i):Mod Z A C:=
 ⟨k.os.trans h.os,k.tape.trans h.tape,k.output.trans h.output,Nat.le_trans h.size k.size,
  λi hi hn=>(k.block i (Nat.lt_of_lt_of_le hi h.size) (λe=>hn (hy i hi e))).trans (h.block i hi (λe=>hn (hx i hi e)))⟩
theorem Mod.mono {X Z:Nat->Prop}{A B:World}(h:Mod X A B)(hx:∀i,i<A.heap.size->X i->Z i):Mod Z A B:=
 ⟨h.os,h.tape,h.output,h.size,λi hi hn=>h.block i hi (λe=>hn (hx i hi e))⟩
theorem Mod.of_below {W W':World}(X:Nat->Prop)(h:Below W.heap.size W W'):Mod X W W':=
 ⟨h.os,h.tape,h.output,h.size,λk hk _=>h.block k hk⟩
theorem Mod.to_below {X:Nat->Prop}{B:Nat}{W W':World}(h:Mod X W W')(hB:B<=W.heap.size)(hx:∀k,k<W.heap.size->X k->B<=k):Below B W W':=
 ⟨h.os,h.tape,h.output,h.size,λk hk=>h.block k (by omega) (λe=>by have:=hx k (by omega) e;omega)⟩
theorem Mod.alloc(X:Nat->Prop)(W:World)(o:Obj):Mod X W (W.alloc o):=
 ⟨rfl,rfl,rfl,by simp,λk hk _=>U4 W o k hk⟩
theorem Mod.setCell {X:Nat->Prop}(W:World)(a:Addr)(v:Value)(hx:X a.block):Mod X W (W.setCell a v):=
 ⟨rfl,rfl,rfl,by simp [World.setCell],λk _ hn=>N4 W a v k (λe=>hn (e ▸ hx))⟩
theorem Mod.drew(X:Nat->Prop)(W:World):Mod X W W.drew:=⟨rfl,rfl,rfl,N0 _,λ_ _ _=>rfl⟩
theorem Mod.putObj {X:Nat->Prop}(W:World)(r:Nat)(o:Obj)(hx:X r):Mod X W (W.putObj r o):=
 ⟨rfl,rfl,rfl,by simp,λk _ hn=>U1 (λe=>hn (e ▸ hx))⟩
theorem Mod.thenSet {X:Nat->Prop}{A W:World}(h:Mod X A W){p:Addr}(hx:X p.block)(v:Value):Mod X A (W.setCell p v):=h.trans (Mod.setCell W p v hx) (λ_ _ e=>e) (λ_ _ e=>e)
theorem Mod.thenAlloc {X:Nat->Prop}{A W:World}(h:Mod X A W)(o:Obj):Mod X A (W.alloc o):=h.trans (Mod.alloc X W o) (λ_ _ e=>e) (λ_ _ e=>e)
theorem Mod.thenDrew {X:Nat->Prop}{A W:World}(h:Mod X A W):Mod X A W.drew:=h.trans (Mod.drew X W) (λ_ _ e=>e) (λ_ _ e=>e)
theorem Mod.thenCall {X:Nat->Prop}{A W W':World}(h:Mod X A W)(hb:Below W.heap.size W W'):Mod X A W':=h.trans (Mod.of_below X hb) (λ_ _ e=>e) (λ_ _ e=>e)
theorem Mod.thenPut {X:Nat->Prop}{A W:World}(h:Mod X A W){r:Nat}(hx:X r)(o:Obj):Mod X A (W.putObj r o):=h.trans (Mod.putObj W r o hx) (λ_ _ e=>e) (λ_ _ e=>e)
theorem Mod.cell {X:Nat->Prop}{W W':World}(h:Mod X W W'){p:Addr}(hp:p.block<W.heap.size)(hx:¬X p.block):W'.cell? p=W.cell? p:=
 World.cell?_of_block (w:=W) (h.block p.block hp hx)
theorem Mod.frozen {X:Nat->Prop}{W W':World}(h:Mod X W W'){p:Addr}(hp:p.block<W.heap.size)(hx:¬X p.block):W'.frozen? p=W.frozen? p:=
 World.frozen?_of_block (w:=W) (h.block p.block hp hx)
theorem zbL {W w1:World}(hb:Below W.heap.size W w1):(∀b o,b<W.heap.size->w1.cell? ⟨b,o,none⟩=W.cell? ⟨b,o,none⟩)/\(∀b o,b<W.heap.size->w1.frozen? ⟨b,o,none⟩=W.frozen? ⟨b,o,none⟩):=
 ⟨λb o h=>hb.cell (p:=⟨b,o,none⟩) h,λb o h=>hb.frozen (p:=⟨b,o,none⟩) h⟩
theorem ze {w W W':World}(h:Below w.heap.size w W)(h2:Below W.heap.size W W'):Below w.heap.size w W':=h.trans (h2.mono h.size)
theorem zi {w W:World}(h:Below w.heap.size w W)(o:Obj):Below w.heap.size w (W.alloc o):=h.alloc h.size o
theorem zm {w W:World}(h:Below w.heap.size w W):Below w.heap.size w W.drew:=h.drew
theorem zeQ {w W:World}(h:Below w.heap.size w W)(n:Nat):Below w.heap.size w (W.drewN n):=below_drewN h n
theorem zu {w W:World}(h:Below w.heap.size w W){p:Addr}(hp:w.heap.size<=p.block)(u:Value):Below w.heap.size w (W.setCell p u):=h.setCell hp u
def Blk(w:World)(b:Nat)(cs:Array Value)(t:TypeId):Prop:=w.heap[b]?=some (.cells cs t (0,0))
theorem Blk.cell {w:World}{b:Nat}{cs:Array Value}{t:TypeId}(h:Blk w b cs t)(o:Nat):w.cell? ⟨b,o,none⟩=cs[o]?:=by
 unfold Blk at h;simp [World.cell?,h]
theorem Blk.frozen {w:World}{b:Nat}{cs:Array Value}{t:TypeId}(h:Blk w b cs t)(o:Nat):w.frozen? ⟨b,o,none⟩=false:=by
 unfold Blk at h;simp [World.frozen?,h]
theorem Blk.lt {w:World}{b:Nat}{cs:Array Value}{t:TypeId}(h:Blk w b cs t):b<w.heap.size:=(N5.1 h).1
theorem Blk.kept {w w':World}{b:Nat}{cs:Array Value}{t:TypeId}(h:Blk w b cs t)(hb:w'.heap[b]?=w.heap[b]?):Blk w' b cs t:=hb.trans h
theorem Blk.below {B:Nat}{w w':World}{b:Nat}{cs:Array Value}{t:TypeId}(h:Blk w b cs t)(hb:Below B w w')(hB:b<B):Blk w' b cs t:=h.kept (hb.block b hB)
theorem Blk.call {w w':World}{b:Nat}{cs:Array Value}{t:TypeId}(h:Blk w b cs t)(hb:Below w.heap.size w w'):Blk w' b cs t:=h.below hb h.lt
theorem Blk.mod {X:Nat->Prop}{w w':World}{b:Nat}{cs:Array Value}{t:TypeId}(h:Blk w b cs t)(hm:Mod X w w')(hx:¬X b):Blk w' b cs t:=h.kept (hm.block b h.lt hx)
theorem Blk.new {w:World}{b:Nat}{cs:Array Value}{t:TypeId}(hb:b=w.heap.size):Blk (w.alloc (.cells cs t)) b cs t:=by subst hb;exact World.alloc_heap_new w _
theorem Blk.alloc {w:World}{b:Nat}{cs:Array Value}{t:TypeId}(h:Blk w b cs t)(o:Obj):Blk (w.alloc o) b cs t:=h.kept (U4 w o b h.lt)
theorem Blk.drew {w:World}{b:Nat}{cs:Array Value}{t:TypeId}(h:Blk w b cs t):Blk w.drew b cs t:=h
theorem Blk.drewN {w:World}{b:Nat}{cs:Array Value}{t:TypeId}(h:Blk w b cs t)(n:Nat):Blk (w.drewN n) b cs t:=h
theorem Blk.other {w:World}{b:Nat}{cs:Array Value}{t:TypeId}(h:Blk w b cs t){p:Addr}(hp:b≠p.block)(v:Value):Blk (w.setCell p v) b cs t:=h.kept (N4 w p v b hp)
theorem Blk.set {w:World}{b o:Nat}{cs:Array Value}{t:TypeId}(h:Blk w b cs t)(v:Value):Blk (w.setCell ⟨b,o,none⟩ v) b (cs.setIfInBounds o v) t:=by
 unfold Blk at h⊢
 show(w.heap.modify b _)[b]?=_
 rw [Array.getElem?_modify,if_pos rfl,h];rfl
theorem Blk.putObj {w:World}{b r:Nat}{cs:Array Value}{t:TypeId}(h:Blk w b cs t)(hr:b≠r)(o:Obj):Blk (w.putObj r o) b cs t:=h.kept (U1 hr)
def Jc {σ:Type}(I:σ->(Nat->Prop)->World->Prop):Prop:=
 ∀s X X' W W',I s X W->Mod X W W'->(∀k,X' k->X k∨(W.heap.size<=k/\k<W'.heap.size))->I s X' W'
def jm(X:Nat->Prop)(W W':World):Prop:=W.heap.size<=W'.heap.size/\∀k,X k->k<W.heap.size->W'.heap[k]?=W.heap[k]?
theorem jm.refl(X:Nat->Prop)(W:World):jm X W W:=⟨N0 _,λ_ _ _=>rfl⟩
theorem jm.trans {X:Nat->Prop}{A B C:World}(h:jm X A B)(k:jm X B C):jm X A C:=
 ⟨Nat.le_trans h.1 k.1,λi hx hi=>(k.2 i hx (Nat.lt_of_lt_of_le hi h.1)).trans (h.2 i hx hi)⟩
theorem jm.of_mod {X Y:Nat->Prop}{W W':World}(h:Mod Y W W')(hd:∀k,k<W.heap.size->X k->¬Y k):jm X W W':=
 ⟨h.size,λk hx hk=>h.block k hk (hd k hk hx)⟩
theorem jm.cell {X:Nat->Prop}{W W':World}(h:jm X W W'){p:Addr}(hx:X p.block)(hp:p.block<W.heap.size):W'.cell? p=W.cell? p:=
 World.cell?_of_block (w:=W) (h.2 p.block hx hp)
theorem jm.frozen {X:Nat->Prop}{W W':World}(h:jm X W W'){p:Addr}(hx:X p.block)(hp:p.block<W.heap.size):W'.frozen? p=W.frozen? p:=
 World.frozen?_of_block (w:=W) (h.2 p.block hx hp)
def Fr(M:Nat->Prop)(W0:World)(X:Nat->Prop)(W:World):Prop:=(∀k,X k->W0.heap.size<=k/\k<W.heap.size)/\Mod M W0 W
theorem Fr.refl(M:Nat->Prop)(W:World):Fr M W (λ_=>False) W:=⟨λ_ h=>h.elim,Mod.refl M W⟩
theorem Fr.step {M X X':Nat->Prop}{W0 W W':World}(h:Fr M W0 X W)(hm:Mod X W W')(hx:∀k,X' k->X k∨(W.heap.size<=k/\k<W'.heap.size)):Fr M W0 X' W':=
 ⟨λk hk=>by
  have hs:=hm.size
  rcases hx k hk with h1|h1
  ·have:=h.1 k h1;omega
  ·have:=h.2.size;omega,
  h.2.trans hm (λ_ _ e=>e) (λi hi e=>by have:=h.1 i e;omega)⟩
theorem Fr.next {M X:Nat->Prop}{W0 W:World}(h:Fr M W0 X W):¬X W.heap.size:=λe=>by have:=h.1 _ e;omega
theorem Fr.cell {M X:Nat->Prop}{W0 W W':World}(h:Fr M W0 X W)(hm:Mod X W W'){p:Addr}(hp:p.block<W0.heap.size):W'.cell? p=W.cell? p:=
 hm.cell (Nat.lt_of_lt_of_le hp h.2.size) (λe=>by have:=h.1 _ e;omega)
theorem Fr.frozen {M X:Nat->Prop}{W0 W W':World}(h:Fr M W0 X W)(hm:Mod X W W'){p:Addr}(hp:p.block<W0.heap.size):W'.frozen? p=W.frozen? p:=
 hm.frozen (Nat.lt_of_lt_of_le hp h.2.size) (λe=>by have:=h.1 _ e;omega)
theorem Fr.block {M X:Nat->Prop}{W0 W W':World}(h:Fr M W0 X W)(hm:Mod X W W'){k:Nat}(hp:k<W0.heap.size):W'.heap[k]?=W.heap[k]?:=
 hm.block k (Nat.lt_of_lt_of_le hp h.2.size) (λe=>by have:=h.1 _ e;omega)
theorem Fr.mod {M X Y:Nat->Prop}{W0 W W':World}(h:Fr M W0 X W)(hm:Mod Y W W')(hy:∀k,k<W0.heap.size->Y k->M k):Fr M W0 X W':=
 ⟨λk hk=>by have:=h.1 k hk;have:=hm.size;omega,h.2.trans hm (λ_ _ e=>e) hy⟩
theorem Jd {w:World}{D:Nat}{o:Obj}{p:Addr}(h:w.heap[D]?=some o)(hp:D≠p.block)(v:Value):(w.setCell p v).heap[D]?=some o:=(N4 w p v D hp).trans h
theorem Fr.wider {M M' X:Nat->Prop}{W0 W:World}(h:Fr M W0 X W)(hy:∀k,M k->M' k):Fr M' W0 X W:=⟨h.1,h.2.mono (λk _ e=>hy k e)⟩
theorem Fr.below {M X:Nat->Prop}{W0 W:World}{B:Nat}(h:Fr M W0 X W)(hB:B<=W0.heap.size)(hM:∀k,M k->B<=k):Below B W0 W:=h.2.to_below hB (λk _ e=>hM k e)
theorem zS {B:Nat}{a w:World}(h:Below B a w){r:Nat}(hr:B<=r)(o:Obj):Below B a (w.putObj r o):=
 h.trans ⟨rfl,rfl,rfl,by simp,λk hk=>U1 (by omega)⟩
def zaF(F:Fence)(n:Nat)(P:Program)(gf:Nat)(lb:Array Value){α σ:Type}(encs:α->Array Value)(nx:σ->α->Prop)(st:σ->α->σ)(fin:σ->Prop)(Rd:σ->World->Prop)(s0:σ):Prop:=
 ∀(l:Nat)(J:σ->(Nat->Prop)->World->Prop) (Jx:Unit->(Nat->Prop)->World->Prop) (W:World),
  Jc J->Jc Jx->(∀s X W,J s X W->Rd s W)->
  (∀s x X W,J s X W->nx s x->YieldAt F (n - 1) P l (encs x) W λe W'=>
   (e=.returned (.bool true)/\J (st s x) X W'/\jm X W W')∨(e=.returned (.bool false)/\Jx () X W'))->
  J s0 (λ_=>False) W->
  CallsIn F n P gf (#[.func (.yield l) #[] #[]] ++lb) W λe W'=>(∃v,e=.returned v)/\
   ((∃s X,fin s/\J s X W')∨(∃X,Jx () X W'))
def zbM {σ:Type}(I:σ->(Nat->Prop)->World->Prop)(Ix:Code->(Nat->Prop)->World->Prop)(s':σ)(X:Nat->Prop)(W:World):Exit->Act->World->Prop
 | .normal,_,W'=>I s' X W'/\jm X W W'
 | .ret,_,W'=>Ix .ret X W'/\jm X W W'
 | .exit id,_,W'=>Ix (.exit id) X W'/\jm X W W'
 | .goto t,_,W'=>Ix (.goto t) X W'/\jm X W W'
 | .panic _,_,_=>False
 | .outgrown,_,_=>False
variable {F:Fence}{n:Nat}{P:Program}
theorem Xb {α σ:Type}{g:Operand}{ps:Array Tmp}{assign body:Code}{Q:Exit->Act->World->Prop}{a:Act}{w:World}
 (hro:F.round=none) (h1:1<=n) {gf:Nat} {lb:Array Value} (hg:a.eval g=.func (.func gf) #[] lb) (hFg:F.fn gf) (eg:∀args w,(callFunc gf args).run P w=.ok (.enter gf args) w)
 {encs:α->Array Value} {nx:σ->α->Prop} {st:σ->α->σ} {fin:σ->Prop} {Rd:σ->World->Prop} {s0:σ} (hit:zaF F (n - 1) P gf lb encs nx st fin Rd s0) (hps:∀x,(encs x).size=ps.size)
 (I:σ->(Nat->Prop)->World->Prop) (Ix:Code->(Nat->Prop)->World->Prop) (hI:Jc I) (hIx:∀c,Jc λ(_:Unit)=>Ix c) (hRd:∀s X W,I s X W->Rd s W) (h0:I s0 (λ_=>False) w)
 (Ax:σ->α->Act->(Nat->Prop)->World->Prop) (hAx:∀s x a',Jc λ(_:Unit)=>Ax s x a')
 (hassign:∀(l:Nat)(s:σ)(x:α)(X:Nat->Prop)(W:World)(K:Act->World->Prop),I s X W->nx s x->(∀a' W',Ax s x a' X W'->jm X W W'->K a' W')->
  assign.wpIn (F.inRound l) (n - 1 - 1) P (Exit.then K (λ_ _ _=>False)) {tmps:=(ps.zip (encs x)).foldl (λt (p,v)=>t.setIfInBounds p v) a.tmps,defers:=[] } W)
 (hbody:∀(l:Nat)(s:σ)(x:α)(a':Act)(X:Nat->Prop)(W:World),Ax s x a' X W->X l->(∃r,W.heap[l]?=some (.loop r))->
  body.wpIn (F.inRound l) (n - 1 - 1) P (zbM I Ix (st s x) X W) a' W)
 (hdone:∀(D:Nat)(s:σ)(X:Nat->Prop)(W:World),w.heap.size<=D->X D->fin s->I s X W->W.heap[D]?=some (.deferred (some []))->Q .normal {a with defers:={target:=.collected D,args:=#[] } ::a.defers} W)
 (hstop:∀(D:Nat)(c:Code)(X:Nat->Prop)(W:World),w.heap.size<=D->X D->Ix c X W->W.heap[D]?=some (.deferred (some []))->c.wpIn F n P Q {a with defers:={target:=.collected D,args:=#[] } ::a.defers} W):
 (Code.rangeFunc g ps assign body).wpIn F n P Q a w:=by
 refine wpIn_rangeFunc ?_;intro fn hfn;rw [hro];obtain⟨ab,aa⟩:∃ab:LoopState->Option Code->Loop,ab=λst pe=> {state:=st,pending:=pe,fn,tmps:=a.tmps,params:=ps,assign,body,defers:=w.heap.size} :=⟨_,rfl⟩
 obtain⟨W1,am⟩:∃W1,(w.alloc (.deferred (some []))).alloc (.loop (ab .ready none))=W1:=⟨_,rfl⟩
 have ay:W1.heap[w.heap.size+1]?=some (.loop (ab .ready none)):=by
  rw [← am];have:=World.alloc_heap_new (w.alloc (.deferred (some []))) (.loop (ab .ready none));rwa [World.size_alloc] at this
 have a0:W1.heap[w.heap.size]?=some (.deferred (some [])):=by
  rw [← am];exact(U4 _ _ _ (by simp)).trans (World.alloc_heap_new w _)
 have a6:Mod (λ_=>False) w W1:=by
  rw [← am];exact(Mod.alloc _ w _).trans (Mod.alloc (λ_=>False) _ _) (λ_ _ h=>h) (λ_ _ h=>h)
 obtain⟨Y,hY⟩:∃Y:(Nat->Prop)->Nat->Prop,Y=λX k=>X k∨k=w.heap.size∨k=w.heap.size+1:=⟨_,rfl⟩
 have an:∀X,Y X w.heap.size:=λX=>by rw [hY];exact .inr (.inl rfl)
 have ae:∀X,Y X (w.heap.size+1):=λX=>by rw [hY];exact .inr (.inr rfl)
 have a9:I s0 (Y λ_=>False) W1:=by
  refine hI _ _ _ _ _ h0 a6 (λk hk=>?_);rw [hY] at hk
  rcases hk with h|h|h
  ·exact .inl h
  ·right;have:=(N5.1 a0).1;omega
  right;have:=(N5.1 ay).1;omega
 refine⟨w.heap.size+1,[{target:=.collected w.heap.size,args:=#[] }],W1,{target:=.fn (.func gf) lb,args:=#[.func (.yield (w.heap.size+1)) #[] #[]] },W1,gf,
  #[.func (.yield (w.heap.size+1)) #[] #[]] ++lb,W1,?_,?_,?_,?_,λ_=>h1,?_⟩
 ·rw [← am,aa];exact run_enterLoop_outer _ _ _ _ _
 ·simp only [resolve,hg]
  simp [go_sem]
 ·intro f' hf';simp [Target.leads] at hf';subst hf';exact hFg
 ·simp [invoke,go_sem,eg]
 have ac:∀ {σ':Type} {I':σ'->(Nat->Prop)->World->Prop} (_:Jc I') (s:σ') (X:Nat->Prop) (W:World) (r:Nat) (o:Obj),Y X r->I' s (Y X) W->I' s (Y X) (W.putObj r o):=
  λhst s X W r o hr h=>hst _ _ _ _ _ h (Mod.putObj W r o hr) (λk hk=>.inl hk)
 have af:∀ {σ':Type} (I':σ'->(Nat->Prop)->World->Prop) (_:Jc I') (ol:Obj),
  Jc (λs X W=>I' s (Y X) W/\¬X w.heap.size/\¬X (w.heap.size+1)/\W.heap[w.heap.size+1]?=some ol/\W.heap[w.heap.size]?=some (.deferred (some []))):=by
  intro σ' I' hst ol s X X' W W' ⟨hi,hd,hl,hol,hod⟩ hm hx;have au:=(N5.1 hol).1;refine⟨hst _ _ _ _ _ hi (hm.mono (λk _ h=>by rw [hY];exact .inl h)) (λk hk=>?_),λh=>?_,λh=>?_,?_,?_⟩
  ·rw [hY] at hk⊢
   rcases hk with h|h|h
   ·rcases hx k h with h|h
    ·exact .inl (.inl h)
    exact .inr h
   ·exact .inl (.inr (.inl h))
   exact .inl (.inr (.inr h))
  ·rcases hx _ h with h|h
   ·exact hd h
   omega
  ·rcases hx _ h with h|h
   ·exact hl h
   omega
  ·rw [hm.block _ au hl];exact hol
  rw [hm.block _ (by omega) hd];exact hod
 refine(hit (w.heap.size+1)
  (λs X W=>I s (Y X) W/\¬X w.heap.size/\¬X (w.heap.size+1)/\W.heap[w.heap.size+1]?=some (.loop (ab .ready none))/\W.heap[w.heap.size]?=some (.deferred (some [])))
  (λ_ X W=>∃c,Ix c (Y X) W/\¬X w.heap.size/\¬X (w.heap.size+1)/\W.heap[w.heap.size+1]?=some (.loop (ab .done (some c)))/\W.heap[w.heap.size]?=some (.deferred (some [])))
  W1 (af I hI _)
  (λs X X' W W' ⟨c,h⟩ hm hx=>⟨c,af (λ(_:Unit)=>Ix c) (hIx c) _ s X X' W W' h hm hx⟩)
  (λs X W h=>hRd s _ W h.1) ?_ ⟨a9,λh=>h,λh=>h,ay,a0⟩).mono ?_
 ·
   rintro s x X W⟨hi,hd,aj,hl,hk⟩ a8;have au:w.heap.size+1<W.heap.size:=(N5.1 hl).1;have hy:=run_yield (P:=P) (args:=encs x) hl (by rw [aa];exact hps x);rw [aa] at hy;refine⟨fn,_,assign,body,hy,roundIn_of_wpIn hfn (hassign _ s x (Y X) W _ hi a8 ?_)⟩;intro a' Wa hax hsv;have a2:Wa.heap[w.heap.size+1]?=some (.loop (ab .ready none)):=(hsv.2 _ (ae X) au).trans hl;have a4:Wa.heap[w.heap.size]?=some (.deferred (some [])):=(hsv.2 _ (an X) (by omega)).trans hk;have ao:w.heap.size+1<Wa.heap.size:=(N5.1 a2).1;refine⟨_,run_beginRound a2 (by rw [aa]),?_⟩;obtain⟨W2,ak⟩:∃W2,Wa.putObj (w.heap.size+1) (.loop {ab .ready none with state:=.busy})=W2:=⟨_,rfl⟩;have aq:W2.heap[w.heap.size+1]?=some (.loop {ab .ready none with state:=.busy}):=by rw [← ak];exact World.putObj_heap_same ao
   have a7:W2.heap[w.heap.size]?=some (.deferred (some [])):=by rw [← ak];exact(U1 (by omega)).trans a4
   have ap:Ax s x a' (Y X) W2:=by rw [← ak];exact ac (hAx s x a') () X Wa _ _ (ae X) hax
   have a5:W2.heap.size=Wa.heap.size:=by rw [← ak];simp
   rw [ak];refine wpIn_mono (hbody _ s x a' (Y X) W2 ap (ae X) ⟨_,aq⟩) ?_
   have fin:∀(jump:Option Code)(W3:World),jm (Y X) W2 W3->
    (Instr.endRound (w.heap.size+1) jump).run P W3=.ok (.bool jump.isNone) (W3.putObj (w.heap.size+1) (.loop (ab (if jump.isNone then .ready else .done) jump)))/\
    (W3.putObj (w.heap.size+1) (.loop (ab (if jump.isNone then .ready else .done) jump))).heap[w.heap.size+1]?=some (.loop (ab (if jump.isNone then .ready else .done) jump))/\
    (W3.putObj (w.heap.size+1) (.loop (ab (if jump.isNone then .ready else .done) jump))).heap[w.heap.size]?=some (.deferred (some []))/\
    jm X W (W3.putObj (w.heap.size+1) (.loop (ab (if jump.isNone then .ready else .done) jump))):=λjump W3 ad=>by
    have aw:=(N5.1 aq).1;have az:=(ad.2 _ (ae X) aw).trans aq;have ar:=(ad.2 _ (an X) (by omega)).trans a7;have:=run_endRound (P:=P) jump az;rw [aa] at this⊢;refine⟨this,World.putObj_heap_same (N5.1 az).1,(U1 (by omega)).trans ar,?_,?_⟩
    ·have:=hsv.1;have:=ad.1;simp;omega
    intro k hx hk
    have a1:k≠w.heap.size+1:=λe=>aj (e ▸ hx)
    rw [U1 a1];have ax:Y X k:=by rw [hY];exact .inl hx
    have h2:=ad.2 k ax (by have:=hsv.1;omega);have h3:W2.heap[k]?=Wa.heap[k]?:=by rw [← ak];exact U1 a1
    rw [h2,h3];exact hsv.2 k ax hk
   rintro e a3 W3 hp
   cases e with
   |normal=>
    obtain⟨ai,ad⟩:=hp;obtain⟨hr,ag,ah,al⟩:=fin none W3 ad;exact⟨_,_,hr,.inl ⟨rfl,⟨ac hI _ X W3 _ _ (ae X) ai,hd,aj,ag,ah⟩,al⟩⟩
   |ret=>
    obtain⟨ai,ad⟩:=hp;obtain⟨hr,ag,ah,al⟩:=fin (some .ret) W3 ad;exact⟨_,_,hr,.inr ⟨rfl,.ret,ac (hIx _) () X W3 _ _ (ae X) ai,hd,aj,ag,ah⟩⟩
   |exit id=>
    obtain⟨ai,ad⟩:=hp;obtain⟨hr,ag,ah,al⟩:=fin (some (.exit id)) W3 ad;exact⟨_,_,hr,.inr ⟨rfl,.exit id,ac (hIx _) () X W3 _ _ (ae X) ai,hd,aj,ag,ah⟩⟩
   |goto t=>
    obtain⟨ai,ad⟩:=hp;obtain⟨hr,ag,ah,al⟩:=fin (some (.goto t)) W3 ad;exact⟨_,_,hr,.inr ⟨rfl,.goto t,ac (hIx _) () X W3 _ _ (ae X) ai,hd,aj,ag,ah⟩⟩
   |panic ch=>exact hp.elim
   |outgrown=>exact hp.elim
 
 rintro e W2⟨⟨v,rfl⟩,(⟨s,X,hS,hi,hd,aj,hl,hk⟩|⟨X,c,hi,hd,aj,hl,hk⟩)⟩
 ·exact⟨none,_,by have:=run_endLoop (P:=P) hl (by rw [aa];simp);rw [aa] at this;exact this,hdone _ s (Y X) _ (N0 _) (an X) hS (ac hI _ X W2 _ _ (ae X) hi) ((U1 (by omega)).trans hk)⟩
 exact⟨some c,_,by have:=run_endLoop (P:=P) hl (by rw [aa];simp);rw [aa] at this;exact this,hstop _ c (Y X) _ (N0 _) (an X) (ac (hIx c) () X W2 _ _ (ae X) hi) ((U1 (by omega)).trans hk)⟩
theorem zfE {α σ:Type}{g:Operand}{ps:Array Tmp}{assign body:Code}{Q:Exit->Act->World->Prop}{a:Act}{w:World}
 (hro:F.round=none) (h1:1<=n) {gf:Nat} {lb:Array Value} (hg:a.eval g=.func (.func gf) #[] lb) (hFg:F.fn gf) (eg:∀args w,(callFunc gf args).run P w=.ok (.enter gf args) w)
 {encs:α->Array Value} {nx:σ->α->Prop} {st:σ->α->σ} {fin:σ->Prop} {Rd:σ->World->Prop} {s0:σ} (hit:zaF F (n - 1) P gf lb encs nx st fin Rd s0) (hps:∀x,(encs x).size=ps.size)
 (I:σ->(Nat->Prop)->World->Prop) (Ix:Code->(Nat->Prop)->World->Prop) (hI:Jc I) (hIx:∀c,Jc λ(_:Unit)=>Ix c) (hRd:∀s X W,I s X W->Rd s W) (h0:I s0 (λ_=>False) w)
 (a₁:α->Act)
 (hassign:∀(l:Nat)(x:α)(W:World)(K:Act->World->Prop),K (a₁ x) W->
  assign.wpIn (F.inRound l) (n - 1 - 1) P (Exit.then K (λ_ _ _=>False)) {tmps:=(ps.zip (encs x)).foldl (λt (p,v)=>t.setIfInBounds p v) a.tmps,defers:=[] } W)
 (hbody:∀(l:Nat)(s:σ)(x:α)(X:Nat->Prop)(W:World),I s X W->nx s x->X l->(∃r,W.heap[l]?=some (.loop r))->
  body.wpIn (F.inRound l) (n - 1 - 1) P (zbM I Ix (st s x) X W) (a₁ x) W)
 (hdone:∀(D:Nat)(s:σ)(X:Nat->Prop)(W:World),w.heap.size<=D->X D->fin s->I s X W->W.heap[D]?=some (.deferred (some []))->Q .normal {a with defers:={target:=.collected D,args:=#[] } ::a.defers} W)
 (hstop:∀(D:Nat)(c:Code)(X:Nat->Prop)(W:World),w.heap.size<=D->X D->Ix c X W->W.heap[D]?=some (.deferred (some []))->c.wpIn F n P Q {a with defers:={target:=.collected D,args:=#[] } ::a.defers} W):
 (Code.rangeFunc g ps assign body).wpIn F n P Q a w:=
 Xb hro h1 hg hFg eg hit hps I Ix hI hIx hRd h0 (λs x a' X W=>a'=a₁ x/\nx s x/\I s X W)
  (λs x a' _ X X' W W' h hm hx=>⟨h.1,h.2.1,hI _ _ _ _ _ h.2.2 hm hx⟩)
  (λl s x X W K hi hn hK=>hassign l x W K (hK _ W ⟨rfl,hn,hi⟩ (jm.refl X W)))
  (λl s x a' X W h hl hr=>by obtain⟨rfl,hn,hi⟩:=h;exact hbody l s x X W hi hn hl hr)
  hdone hstop
theorem zbN {c:Code}{Q:Exit->Act->World->Prop}{a A:Act}{w:World}{Wp:World->Prop}(h:c.wpIn F n P (λe a' w'=>e=.normal/\a'=A/\Wp w') a w)(h2:∀w',Wp w'->Q .normal A w'):c.wpIn F n P Q a w:=
 wpIn_mono h (λe a' w' ⟨he,ha,hw⟩=>by subst he;subst ha;exact h2 w' hw)
theorem zl {f:FuncId}{fn:Func}{c:Code}{args:Array Value}{w:World}{R:Ending->World->Prop}
 (hf:P.funcs[f]?=some fn) (hb:fn.body=some c)
 (h:c.wp P (bodyPostM Fence.wide 3 P fn R) {tmps:=args++Array.replicate (fn.ntmps - args.size) undef,defers:=[] } w):Calls P f args w R:=
 (callsIn_wide (n:=3)).1 (callsIn_of_wp_marks hf hb trivial (wpIn_wide.2 h) rfl)
theorem inRound {f:FuncId}{args:Array Value}{w:World}{R:Ending->World->Prop}(l m:Nat)(h:Calls P f args w R):CallsIn (Fence.wide.inRound l) m P f args w R:=
 CallsIn.inRound l (callsIn_wide.2 h)
theorem zB(f:FuncId):Fence.wide.fn f=True:=rfl
theorem zo:Fence.wide.depth=none:=rfl
theorem jp {fn:Func}{R:Ending->World->Prop}{tmps:Array Value}{w:World}{v:Value}{m:Nat}
 (hr:(results fn tmps).run P w=.ok v w) (hR:R (.returned v) w):bodyPostM Fence.wide m P fn R .ret {tmps,defers:=[] } w:=⟨v,hr,hR⟩
theorem jl {fn:Func}{R:Ending->World->Prop}{tmps:Array Value}{w:World}{v:Value}{m D:Nat}(hD:w.heap[D]?=some (.deferred (some [])))
 (hr:(results fn tmps).run P (w.putObj D (.deferred none))=.ok v (w.putObj D (.deferred none))) (hR:R (.returned v) (w.putObj D (.deferred none))):
 bodyPostM Fence.wide m P fn R .ret {tmps,defers:=[{target:=.collected D,args:=#[] }] } w:=
 ⟨by simp,.inl ⟨D,_,rfl,run_takeDeferred hD,v,hr,hR⟩⟩
theorem QW {fn:Func}{R:Ending->World->Prop}{tmps:Array Value}{w:World}{v:Value}{m D:Nat}(hD:w.heap[D]?=some (.deferred (some [])))
 (hr:(results fn tmps).run P (w.putObj D (.deferred none))=.ok v (w.putObj D (.deferred none))) (hR:R (.returned v) (w.putObj D (.deferred none))):
 bodyPostM Fence.wide m P fn R .normal {tmps,defers:=[{target:=.collected D,args:=#[] }] } w:=
 ⟨by simp,.inl ⟨D,_,rfl,run_takeDeferred hD,v,hr,hR⟩⟩
theorem Xc {α σ:Type}{g:Operand}{ps:Array Tmp}{assign body:Code}{Q:Exit->Act->World->Prop}{a:Act}{w:World}
 {gf:Nat} {lb:Array Value} (hg:a.eval g=.func (.func gf) #[] lb) (eg:∀args w,(callFunc gf args).run P w=.ok (.enter gf args) w)
 {encs:α->Array Value} {nx:σ->α->Prop} {st:σ->α->σ} {fin:σ->Prop} {Rd:σ->World->Prop} {s0:σ} (hit:zaF Fence.wide 2 P gf lb encs nx st fin Rd s0) (hps:∀x,(encs x).size=ps.size)
 (I:σ->(Nat->Prop)->World->Prop) (Ix:Code->(Nat->Prop)->World->Prop) (hI:Jc I) (hIx:∀c,Jc λ(_:Unit)=>Ix c) (hRd:∀s X W,I s X W->Rd s W) (h0:I s0 (λ_=>False) w)
 (Ax:σ->α->Act->(Nat->Prop)->World->Prop) (hAx:∀s x a',Jc λ(_:Unit)=>Ax s x a')
 (hassign:∀(l:Nat)(s:σ)(x:α)(X:Nat->Prop)(W:World)(K:Act->World->Prop),I s X W->nx s x->(∀a' W',Ax s x a' X W'->jm X W W'->K a' W')->
  assign.wpIn (Fence.wide.inRound l) 1 P (Exit.then K (λ_ _ _=>False)) {tmps:=(ps.zip (encs x)).foldl (λt (p,v)=>t.setIfInBounds p v) a.tmps,defers:=[] } W)
 (hbody:∀(l:Nat)(s:σ)(x:α)(a':Act)(X:Nat->Prop)(W:World),Ax s x a' X W->X l->(∃r,W.heap[l]?=some (.loop r))->
  body.wpIn (Fence.wide.inRound l) 1 P (zbM I Ix (st s x) X W) a' W)
 (hdone:∀(D:Nat)(s:σ)(X:Nat->Prop)(W:World),w.heap.size<=D->X D->fin s->I s X W->W.heap[D]?=some (.deferred (some []))->Q .normal {a with defers:={target:=.collected D,args:=#[] } ::a.defers} W)
 (hstop:∀(D:Nat)(c:Code)(X:Nat->Prop)(W:World),w.heap.size<=D->X D->Ix c X W->W.heap[D]?=some (.deferred (some []))->c.wp P Q {a with defers:={target:=.collected D,args:=#[] } ::a.defers} W):
 (Code.rangeFunc g ps assign body).wp P Q a w:=
 (wpIn_wide (n:=3)).1 (Xb (F:=Fence.wide) (n:=3) rfl (by omega) hg trivial eg hit hps I Ix hI hIx hRd h0 Ax hAx hassign hbody hdone
  (λD c X W h1 h2 h3 h4=>wpIn_wide.2 (hstop D c X W h1 h2 h3 h4)))
theorem zeR {α σ:Type}{g:Operand}{ps:Array Tmp}{assign body:Code}{Q:Exit->Act->World->Prop}{a:Act}{w:World}
 {gf:Nat} {lb:Array Value} (hg:a.eval g=.func (.func gf) #[] lb) (eg:∀args w,(callFunc gf args).run P w=.ok (.enter gf args) w)
 {encs:α->Array Value} {nx:σ->α->Prop} {st:σ->α->σ} {fin:σ->Prop} {Rd:σ->World->Prop} {s0:σ} (hit:zaF Fence.wide 2 P gf lb encs nx st fin Rd s0) (hps:∀x,(encs x).size=ps.size)
 (I:σ->(Nat->Prop)->World->Prop) (Ix:Code->(Nat->Prop)->World->Prop) (hI:Jc I) (hIx:∀c,Jc λ(_:Unit)=>Ix c) (hRd:∀s X W,I s X W->Rd s W) (h0:I s0 (λ_=>False) w)
 (a₁:α->Act)
 (hassign:∀(l:Nat)(x:α)(W:World)(K:Act->World->Prop),K (a₁ x) W->
  assign.wpIn (Fence.wide.inRound l) 1 P (Exit.then K (λ_ _ _=>False)) {tmps:=(ps.zip (encs x)).foldl (λt (p,v)=>t.setIfInBounds p v) a.tmps,defers:=[] } W)
 (hbody:∀(l:Nat)(s:σ)(x:α)(X:Nat->Prop)(W:World),I s X W->nx s x->X l->(∃r,W.heap[l]?=some (.loop r))->
  body.wpIn (Fence.wide.inRound l) 1 P (zbM I Ix (st s x) X W) (a₁ x) W)
 (hdone:∀(D:Nat)(s:σ)(X:Nat->Prop)(W:World),w.heap.size<=D->X D->fin s->I s X W->W.heap[D]?=some (.deferred (some []))->Q .normal {a with defers:={target:=.collected D,args:=#[] } ::a.defers} W)
 (hstop:∀(D:Nat)(c:Code)(X:Nat->Prop)(W:World),w.heap.size<=D->X D->Ix c X W->W.heap[D]?=some (.deferred (some []))->c.wp P Q {a with defers:={target:=.collected D,args:=#[] } ::a.defers} W):
 (Code.rangeFunc g ps assign body).wp P Q a w:=
 (wpIn_wide (n:=3)).1 (zfE (F:=Fence.wide) (n:=3) rfl (by omega) hg trivial eg hit hps I Ix hI hIx hRd h0 a₁ hassign hbody hdone
  (λD c X W h1 h2 h3 h4=>wpIn_wide.2 (hstop D c X W h1 h2 h3 h4)))
abbrev O(i:Nat):Nat×Bool:=(i,true)
abbrev E(i:Nat):Nat×Bool:=(i,false)
theorem R8:(∀l:List Value,l.toArray.size=l.length)/\(∀(a:Value)(l:List Value),(a::l).length=l.length+1)/\([]:List Value).length=0/\(∀(n:Nat)(a:Value),Array.replicate (n+1) a=(Array.replicate n a).push a)/\(∀a:Value,Array.replicate 0 a=#[])/\(∀(l:List Value)(a:Value),l.toArray.push a=(l++ [a]).toArray)/\(∀l m:List Value,l.toArray++m.toArray=(l++m).toArray)/\(∀l:List Value,[] ++l=l)/\(∀(a:Value)(l m:List Value),(a::l)++m=a::(l++m)):=
 ⟨λ_=>List.size_toArray,λ_ _=>List.length_cons,List.length_nil,λ_ _=>Array.replicate_succ,λ_=>Array.replicate_zero,λ_ _=>List.push_toArray _ _,λ_ _=>List.append_toArray _ _,λ_=>List.nil_append _,λ_ _ _=>List.cons_append⟩
theorem hid {p:Prop}(h:p):Hid p:=h
theorem pbx {w W:World}(h:Below w.heap.size w W:=by(repeat (first|exact N2 _ _|with_reducible assumption|refine zi ?_ _|refine zm ?_|refine zeQ ?_ _|refine zu ?_ (by simp;try omega) _|refine ze ?_ (by with_reducible assumption)))):Below w.heap.size w W:=h
theorem bkx {w:World}{b:Nat}{cs:Array Value}{t:TypeId}(h:Blk w b cs t:=by(repeat (first|with_reducible assumption|(refine Blk.new ?_;simp;done)|refine Blk.alloc ?_ _|refine Blk.drew ?_|refine Blk.drewN ?_ _|refine Blk.call ?_ (by with_reducible assumption)))):Blk w b cs t:=h
end
section
open Go Go.RowKit Go.ChangeShapes Go.WideShapes Go.ChangeAt
def Je(P:Program)(ts:List TypeId):Bool:=ts.all λt=>P.readableRec t && decide (t<P.types.size)
theorem Ya {H:Type}{enc:TypeId×Value->H}{P:Program}(hl:laidOutB P=true){W W':World}(hb:Below W.heap.size W W'):
 ∀ {ts:List TypeId} {vs:List Value} {ds:List (DataW H)} {ps:List MemPlace},Je P ts=true->(∀x∈ps,x.block<W.heap.size)->DataW.TrodAll enc P W 0 (λ_=>true) true ts vs ds ps->
   DataW.TrodAll enc P W' 0 (λb=>decide (b<W.heap.size)) true ts vs ds ps
 | [],[],[],_,_,_,h=>h
 | [],[],_::_,_,_,_,h=>h.elim
 | [],_::_,_,_,_,_,h=>h.elim
 |_::_,[],_,_,_,_,h=>h.elim
 |_::_,_::_,[],_,_,_,h=>h.elim
 |t::ts,v::vs,d::ds,ps,ht,hlt,h=>by
  obtain⟨p,q,h1,h2,rfl⟩:=h;simp only [Je,List.all_cons,Bool.and_eq_true,decide_eq_true_eq] at ht;exact⟨p,q,Below.trod hl ht.1.1 ht.1.2 h1 hb (λx hx=>hlt x (by simp [hx])),Ya hl hb (by simpa [Je] using ht.2) (λx hx=>hlt x (by simp [hx])) h2,rfl⟩
theorem zaG {H:Type}{enc:TypeId×Value->H}{P:Program}{f:Func}{s:ChangeSpec}{W W':World}{args:Array Value}{ds gs:List (DataW H)}{before:List MemPlace}{tb:TypeId}
 (hl:laidOutB P=true) (hr:Je P f.params.toList=true) (hvs:varsRowed P s.vars=true) (hrt:f.resultTypes=#[tb]) (htb:P.underlying tb=some .bool)
 (hfn:s.fn H (ds++gs)={results:=[.lit (.bool true)],args:=ds,vars:=gs})
 (hW:DataW.Whole enc P f.params.toList s.vars false W args.toList ds gs before) (hb:Below W.heap.size W W'):
 s.post enc P f false true false false W args (.bool true) W':=by
 have aa:=hW.lt;have ab:=hW;obtain⟨p,q,hA,hV,rfl,_,_⟩:=hW;refine⟨ds,gs,p++q,[],p,q,ab,?_,?_,?_,hb.frame _,λh=>by cases h⟩
 ·rw [hfn,hrt]
  exact trodAll_mk1 (shut_bool htb true)
 ·rw [hfn]
  exact Ya hl hb hr (λx hx=>aa x (by simp [hx])) hA
 rw [hfn]
 exact Below.trodVars hl hb hvs hV
end
section
open Go Go.RowKit Go.Shelf
attribute [local go_sem] Oper.semAt_some
def known(v:Int):Bool:=decide (1<=v)&& decide (v<=3)
theorem zaH(F:Fence)(n:Nat)(hF:F.fn 267)(hro:F.round=none)(hn:1<=n):
 zaF F n prog 267 #[] (λv:Int=> #[Value.int .i64 v]) (λ(s:Nat) x=>s<3/\x=(s:Int)+1) (λs _=>s+1) (λs=>s=3) (λ_ _=>True) 0:=by
 intro l J Jx W hJ hJx hRd hY h0;refine callsIn_of_wp func267 rfl hF ?_ hro;simp only [ntmps267,R8,Nat.reduceAdd,Nat.reduceSub]
 gi_wp2
 gi_loopw [2] (λp wr=>∃(s:Nat)(X:Nat->Prop),p=.int .i64 ((s:Int)+1)/\s<=3/\J s X wr) (λp _=>4 - (intOf p).toNat)
 case atStart=>exact⟨0,_,rfl,by omega,h0⟩
 case round=>
  obtain⟨s,X,rfl,hs,aa⟩:=hrel
  by_cases hlt:s<3
  ·obtain⟨fn,tmps,assign,body,hy,hR⟩:=hY s _ X _ aa ⟨hlt,rfl⟩
   gi_wp2
   refine hR.mono ?_;rintro e W'(⟨rfl,ac,_⟩|⟨rfl,ab⟩)
   ·gi_wp2
    go_roundw
    case rel=>exact⟨s+1,X,by go_num,by omega,ac⟩
    case measure=>simp [intOf];omega
   gi_wp2
   refine bodyPost_ret (results_none rfl _ _ _) rfl ?_;exact⟨⟨_,rfl⟩,.inr ⟨X,ab⟩⟩
  gi_wp2
  go_end0
  obtain rfl:s=3:=by omega
  exact⟨⟨_,rfl⟩,.inl ⟨3,X,rfl,aa⟩⟩
theorem vp(v:Int)(w:World):Calls prog 163 #[.int .i64 v] w λe w'=>e=.returned (.bool (known v))/\Below w.heap.size w w':=by
 refine zl func163 rfl ?_;simp only [ntmps163,R8,Nat.reduceAdd,Nat.reduceSub];go_wp2;go_step3;go_wp2;go_step3;go_wp2;obtain⟨W0,ab⟩:∃W0,W0=(w.alloc (.cells #[.int .i64 v] 3)).alloc (.cells #[.bool false] 4):=⟨_,rfl⟩;rw [← ab];have ae:W0.heap.size=w.heap.size+2:=by rw [ab];simp
 have ac:Below w.heap.size w W0:=by rw [ab];exact((N2 _ _).alloc (N0 _) _).alloc (by simp) _
 have c0:W0.cell? ⟨w.heap.size,0,none⟩=some (.int .i64 v):=by rw [ab];simp
 have c1:W0.cell? ⟨w.heap.size+1,0,none⟩=some (.bool false):=by rw [ab];simp
 have f1:W0.frozen? ⟨w.heap.size+1,0,none⟩=false:=by rw [ab];simp
 clear ab
 refine zeR (gf:=267) (lb:=#[]) rfl (enters_of func267 (by kernel_rfl) rfl) (zaH Fence.wide 2 trivial rfl (by omega)) (λ_=>rfl)
  (λs X W=>(∀j:Nat,j<s->v≠(j:Int)+1)/\Fr (λ_=>False) W0 X W)
  (λc X W=>c=.exit 0/\known v=true/\Fr (λk=>k=w.heap.size+1) W0 X W/\W.cell? ⟨w.heap.size+1,0,none⟩=some (.bool true))
  (λs X X' W W' h hm hx=>⟨h.1,h.2.step hm hx⟩)
  (λc s X X' W W' h hm hx=>⟨h.1,h.2.1,h.2.2.1.step hm hx,(h.2.2.1.cell hm (by simp;omega)).trans h.2.2.2⟩)
  (λ_ _ _ _=>trivial) ⟨λj h=>absurd h (Nat.not_lt_zero _),Fr.refl _ _⟩
  (λx=> {tmps:=#[.int .i64 v,.pointer (some ⟨w.heap.size,0,none⟩),.bool false,.pointer (some ⟨w.heap.size+1,0,none⟩),.int .i64 x,.func (.func 267) #[] #[],.int .i64 x,undef,undef,undef,undef],defers:=[] }) ?assign ?body ?done ?stop
 case assign=>
  intro l x W K hK
  gi_wp2
  exact hK
 case body=>
  rintro l s x X W⟨hv,aa⟩⟨hs,rfl⟩ hl _;have d0:W.cell? ⟨w.heap.size,0,none⟩=some (.int .i64 v):=(aa.2.cell (by simp;omega) (λh=>h)).trans c0;have d1:W.cell? ⟨w.heap.size+1,0,none⟩=some (.bool false):=(aa.2.cell (by simp;omega) (λh=>h)).trans c1;have e1:W.frozen? ⟨w.heap.size+1,0,none⟩=false:=(aa.2.frozen (by simp;omega) (λh=>h)).trans f1
  by_cases hx:v=(s:Int)+1
  ·have hk:Hid (known v=true):=by show known v=true;simp [known];omega
   subst hx
   gi_wp2
   refine⟨⟨rfl,hk.out,(aa.wider (λ_ h=>h.elim)).mod (Mod.setCell (X:=λk=>w.heap.size+1=k) W _ _ rfl) (λ_ _ h=>h.symm),?_⟩,jm.of_mod (Mod.setCell (X:=λk=>k=w.heap.size+1) W _ _ rfl) (λk _ hX he=>?_)⟩
   ·exact World.cell?_setCell_same' _ _ _ (by rw [d1];rfl)
   have:=aa.1 k hX;omega
  gi_wp2
  refine⟨⟨λj hj=>?_,aa⟩,jm.refl _ _⟩
  by_cases h:j=s
  ·rw [h];exact hx
  exact hv j (by omega)
 case done=>
  rintro D s X W hD ad rfl⟨hv,aa⟩ hK;have d1:W.cell? ⟨w.heap.size+1,0,none⟩=some (.bool false):=(aa.2.cell (by simp;omega) (λh=>h)).trans c1;go_wp2;rw [Exit.noGoto_ret]
  have hn:known v=false:=by
   have h1:=hv 0 (by omega);have h2:=hv 1 (by omega);have h3:=hv 2 (by omega)
   simp [known];omega
  exact jl hK (results_tmp rfl _ _ _) ⟨by rw [hn];rfl,zS (ac.trans (aa.below (by omega) (λ_ h=>h.elim))) (by omega) _⟩
 case stop=>
  rintro D c X W hD ad⟨rfl,hk,aa,d1⟩ hK;go_wp2;rw [Exit.noGoto_ret];exact jl hK (results_tmp rfl _ _ _) ⟨by rw [hk];rfl,zS (ac.trans (aa.below (by omega) (λ_ h=>by omega))) (by omega) _⟩
def j4(a b:Int):Int:=if known a && known b then(if a=b then 131 else 0)else 130
theorem qc(a b:Int)(w:World):Calls prog 110 #[.int .i64 a,.int .i64 b] w λe w'=>e=.returned (.int .i64 (j4 a b))/\Below w.heap.size w w':=by
 cases ha:known a
 ·go_enter func110,ntmps110
  go_wp2_with (go_at_call 163;refine(vp _ _).mono ?_;rintro e w' ⟨rfl,hb⟩)
  go_ret
  exact⟨by simp [j4,ha],by assumption⟩
 cases hk:known b
 ·go_enter func110,ntmps110
  go_wp2_with (go_at_call 163;refine(vp _ _).mono ?_;rintro e w' ⟨rfl,hb⟩)
  go_ret
  exact⟨by simp [j4,ha,hk],Below.trans (by assumption) (Below.mono (by assumption) (Below.size (by assumption)))⟩
 by_cases hab:a=b
 ·have aa:(a==b)=true:=by simp [hab]
  go_enter func110,ntmps110
  go_wp2_with (go_at_call 163;refine(vp _ _).mono ?_;rintro e w' ⟨rfl,hb⟩)
  go_ret
  exact⟨by subst hab;simp [j4,ha],Below.trans (by assumption) (Below.mono (by assumption) (Below.size (by assumption)))⟩
 have aa:(a==b)=false:=by simp [hab]
 go_enter func110,ntmps110
 go_wp2_with (go_at_call 163;refine(vp _ _).mono ?_;rintro e w' ⟨rfl,hb⟩)
 go_ret
 exact⟨by simp [j4,ha,hk,hab],Below.trans (by assumption) (Below.mono (by assumption) (Below.size (by assumption)))⟩
end
open Go Go.RowKit Go.Shelf Go.Extern.Stop Go.Stop Go.Extern
attribute [local go_sem] Oper.semAt_some
def le4(n:Nat):List UInt8:=[UInt8.ofNat n,UInt8.ofNat (n / 256),UInt8.ofNat (n / 65536),UInt8.ofNat (n / 16777216)]
theorem zY(n:Nat):(le4 n).length=4:=rfl
def bs(l:List UInt8):ByteArray:=⟨l.toArray⟩
theorem xE(l:List UInt8):(bs l).data.toList=l:=by simp [bs]
theorem zI(l:List UInt8):(bs l).size=l.length:=by simp [bs,ByteArray.size]
theorem Xd(n:Nat):UInt8.ofNat (n % 256)=UInt8.ofNat n:=by
 apply UInt8.toNat_inj.1;simp
theorem zbO(n:Nat):((n:Int)% 256).toNat=n % 256:=by omega
theorem zaI(n:Nat):strOfNums [(n:Int)% 256,(n:Int) / 256 % 256,(n:Int) / 65536 % 256,(n:Int) / 16777216 % 256]=bs (le4 n):=by
 have h1:((n:Int) / 256)=((n / 256:Nat):Int):=by omega
 have h2:((n:Int) / 65536)=((n / 65536:Nat):Int):=by omega
 have h3:((n:Int) / 16777216)=((n / 16777216:Nat):Int):=by omega
 unfold strOfNums bs le4;rw [h1,h2,h3];simp only [List.map_cons,List.map_nil,zbO,Xd]
theorem zjB(b off cap:Nat)(xs:List Int)(w:World)(hc:∀i,i<xs.length->w.cell? ⟨b,off+i,none⟩=some (.int .u8 (xs.getD i 0))):
 Calls prog 175 #[.slice (some ⟨b,off,none⟩) xs.length cap] w λe w'=>e=.returned (.string (strOfNums xs))/\w'=w:=by
 have hk:=run_convert_bytes_arg (P:=prog) w 49 5 Tryz.underlying49 Tryz.underlying5 b off xs.length cap xs rfl hc 9 Tryz.underlying9;clear hc
 go_enter func175,ntmps175
 go_wp2;go_ret
 exact⟨rfl,rfl⟩
theorem yT(n:Nat)(w:World):Calls prog 134 #[.int .u32 n] w λe w'=>e=.returned (.string (bs (le4 n)))/\Below w.heap.size w w':=by
 rw [← zaI]
 go_enter func134,ntmps134
 go_wp2_with (go_at_call 175;refine(zjB _ 0 _ [(n:Int)% 256,(n:Int) / 256 % 256,(n:Int) / 65536 % 256,(n:Int) / 16777216 % 256] _ (λi hi=>?_)).mono ?_)
 ·obtain rfl|rfl|rfl|rfl:i=0∨i=1∨i=2∨i=3:=by simp at hi;omega
  all_goals simp
 rintro e w'⟨rfl,rfl⟩
 go_wp2;go_ret
 exact⟨rfl,(N2 _ _).alloc (N0 _) _⟩
theorem zl5(a b:List UInt8):bs a++bs b=bs (a++b):=by
 apply ByteArray.ext;simp [bs]
theorem qr(d:List UInt8)(n:Nat):(bs d).extract 0 n=bs (d.take n):=by
 apply ByteArray.ext;simp [bs,ByteArray.data_extract]
theorem yy(d:List UInt8)(n:Nat):(bs d).extract n (bs d).size=bs (d.drop n):=by
 apply ByteArray.ext
 simp [bs,ByteArray.data_extract,ByteArray.size]
 exact List.take_of_length_le (by simp)
theorem vq(d:List UInt8):(bs d).toList=d:=by
 rw [ByteArray.toList_eq];simp [bs]
