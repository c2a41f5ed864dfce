/- PARTS OF THE PROOF. -/
import Derived.Test.YtofppfoioodblaaGreatDoorDA10
set_option maxRecDepth 8000
set_option maxHeartbeats 4000000
open Go.Proofs.Tryz
namespace Go.Proofs.YtofppfoioodblaaGreatDoor
section
open Go Go.RowKit
def zlt(F:Fence)(n:Nat)(P:Program)(gf:Nat)(lb:Array Value){α σ:Type}(encs:α->Array Value)(nx:σ->α->Prop)(st:σ->α->σ)(fin:σ->Prop)(Rd:σ->World->Prop)(yb:α->Nat)(yc:α->Array Value)(yt:TypeId)(s0:σ):Prop:=
 ∀(l:Nat)(J:σ->(Nat->Prop)->World->Prop) (Jx:Unit->(Nat->Prop)->World->Prop) (W:World),
  Jc J->Jc Jx->(∀s X W,J s X W->Rd s W)->
  (∀s x X W,J s X W->nx s x->Blk W (yb x) (yc x) yt->¬X (yb x)->YieldAt F (n - 1) P l (encs x) W λe W'=>
   (e=.returned (.bool true)/\J (st s x) X W'/\jm X W W')∨(e=.returned (.bool false)/\Jx () X W'))->
  J s0 (λ_=>False) W->
  CallsIn F n P gf (#[.func (.yield l) #[] #[]] ++lb) W λe W'=>(∃v,e=.returned v)/\
   ((∃s X,fin s/\J s X W')∨(∃X,Jx () X W'))
variable {F:Fence}{n:Nat}{P:Program}
theorem zdV {α σ:Type}{g:Operand}{ps:Array Tmp}{assign body:Code}{Q:Exit->Act->World->Prop}{a:Act}{w:World}
 (hro:F.round=none) (h1:1<=n) {gf:Nat} {lb:Array Value} (hg:a.eval g=.func (.func gf) #[] lb) (hFg:F.fn gf) (eg:∀args w,(callFunc gf args).run P w=.ok (.enter gf args) w)
 {encs:α->Array Value} {nx:σ->α->Prop} {st:σ->α->σ} {fin:σ->Prop} {Rd:σ->World->Prop} {s0:σ} {yb:α->Nat} {yc:α->Array Value} {yt:TypeId} (hit:zlt F (n - 1) P gf lb encs nx st fin Rd yb yc yt s0) (hps:∀x,(encs x).size=ps.size)
 (I:σ->(Nat->Prop)->World->Prop) (Ix:Code->(Nat->Prop)->World->Prop) (hI:Jc I) (hIx:∀c,Jc λ(_:Unit)=>Ix c) (hRd:∀s X W,I s X W->Rd s W) (h0:I s0 (λ_=>False) w)
 (Ax:σ->α->Act->(Nat->Prop)->World->Prop) (hAx:∀s x a',Jc λ(_:Unit)=>Ax s x a')
 (hassign:∀(l:Nat)(s:σ)(x:α)(X:Nat->Prop)(W:World)(K:Act->World->Prop),I s X W->nx s x->Blk W (yb x) (yc x) yt->¬X (yb x)->(∀a' W',Ax s x a' X W'->jm X W W'->K a' W')->
  assign.wpIn (F.inRound l) (n - 1 - 1) P (Exit.then K (λ_ _ _=>False)) {tmps:=(ps.zip (encs x)).foldl (λt (p,v)=>t.setIfInBounds p v) a.tmps,defers:=[] } W)
 (hbody:∀(l:Nat)(s:σ)(x:α)(a':Act)(X:Nat->Prop)(W:World),Ax s x a' X W->X l->(∃r,W.heap[l]?=some (.loop r))->
  body.wpIn (F.inRound l) (n - 1 - 1) P (zbM I Ix (st s x) X W) a' W)
 (hdone:∀(D:Nat)(s:σ)(X:Nat->Prop)(W:World),w.heap.size<=D->X D->fin s->I s X W->W.heap[D]?=some (.deferred (some []))->Q .normal {a with defers:={target:=.collected D,args:=#[] } ::a.defers} W)
 (hstop:∀(D:Nat)(c:Code)(X:Nat->Prop)(W:World),w.heap.size<=D->X D->Ix c X W->W.heap[D]?=some (.deferred (some []))->c.wpIn F n P Q {a with defers:={target:=.collected D,args:=#[] } ::a.defers} W):
 (Code.rangeFunc g ps assign body).wpIn F n P Q a w:=by
 refine wpIn_rangeFunc ?_;intro fn hfn;rw [hro];obtain⟨ab,aa⟩:∃ab:LoopState->Option Code->Loop,ab=λst pe=> {state:=st,pending:=pe,fn,tmps:=a.tmps,params:=ps,assign,body,defers:=w.heap.size} :=⟨_,rfl⟩
 obtain⟨W1,an⟩:∃W1,(w.alloc (.deferred (some []))).alloc (.loop (ab .ready none))=W1:=⟨_,rfl⟩
 have az:W1.heap[w.heap.size+1]?=some (.loop (ab .ready none)):=by
  rw [← an];have:=World.alloc_heap_new (w.alloc (.deferred (some []))) (.loop (ab .ready none));rwa [World.size_alloc] at this
 have a1:W1.heap[w.heap.size]?=some (.deferred (some [])):=by
  rw [← an];exact(U4 _ _ _ (by simp)).trans (World.alloc_heap_new w _)
 have a9:Mod (λ_=>False) w W1:=by
  rw [← an];exact(Mod.alloc _ w _).trans (Mod.alloc (λ_=>False) _ _) (λ_ _ h=>h) (λ_ _ h=>h)
 obtain⟨Y,hY⟩:∃Y:(Nat->Prop)->Nat->Prop,Y=λX k=>X k∨k=w.heap.size∨k=w.heap.size+1:=⟨_,rfl⟩
 have ao:∀X,Y X w.heap.size:=λX=>by rw [hY];exact .inr (.inl rfl)
 have ae:∀X,Y X (w.heap.size+1):=λX=>by rw [hY];exact .inr (.inr rfl)
 have bc:I s0 (Y λ_=>False) W1:=by
  refine hI _ _ _ _ _ h0 a9 (λk hk=>?_);rw [hY] at hk
  rcases hk with h|h|h
  ·exact .inl h
  ·right;have:=(N5.1 a1).1;omega
  right;have:=(N5.1 az).1;omega
 refine⟨w.heap.size+1,[{target:=.collected w.heap.size,args:=#[] }],W1,{target:=.fn (.func gf) lb,args:=#[.func (.yield (w.heap.size+1)) #[] #[]] },W1,gf,
  #[.func (.yield (w.heap.size+1)) #[] #[]] ++lb,W1,?_,?_,?_,?_,λ_=>h1,?_⟩
 ·rw [← an,aa];exact run_enterLoop_outer _ _ _ _ _
 ·simp only [resolve,hg]
  simp [go_sem]
 ·intro f' hf';simp [Target.leads] at hf';subst hf';exact hFg
 ·simp [invoke,go_sem,eg]
 have ac:∀ {σ':Type} {I':σ'->(Nat->Prop)->World->Prop} (_:Jc I') (s:σ') (X:Nat->Prop) (W:World) (r:Nat) (o:Obj),Y X r->I' s (Y X) W->I' s (Y X) (W.putObj r o):=
  λhst s X W r o hr h=>hst _ _ _ _ _ h (Mod.putObj W r o hr) (λk hk=>.inl hk)
 have af:∀ {σ':Type} (I':σ'->(Nat->Prop)->World->Prop) (_:Jc I') (ol:Obj),
  Jc (λs X W=>I' s (Y X) W/\¬X w.heap.size/\¬X (w.heap.size+1)/\W.heap[w.heap.size+1]?=some ol/\W.heap[w.heap.size]?=some (.deferred (some []))):=by
  intro σ' I' hst ol s X X' W W' ⟨hi,hd,hl,hol,hod⟩ hm hx;have aw:=(N5.1 hol).1;refine⟨hst _ _ _ _ _ hi (hm.mono (λk _ h=>by rw [hY];exact .inl h)) (λk hk=>?_),λh=>?_,λh=>?_,?_,?_⟩
  ·rw [hY] at hk⊢
   rcases hk with h|h|h
   ·rcases hx k h with h|h
    ·exact .inl (.inl h)
    exact .inr h
   ·exact .inl (.inr (.inl h))
   exact .inl (.inr (.inr h))
  ·rcases hx _ h with h|h
   ·exact hd h
   omega
  ·rcases hx _ h with h|h
   ·exact hl h
   omega
  ·rw [hm.block _ aw hl];exact hol
  rw [hm.block _ (by omega) hd];exact hod
 refine(hit (w.heap.size+1)
  (λs X W=>I s (Y X) W/\¬X w.heap.size/\¬X (w.heap.size+1)/\W.heap[w.heap.size+1]?=some (.loop (ab .ready none))/\W.heap[w.heap.size]?=some (.deferred (some [])))
  (λ_ X W=>∃c,Ix c (Y X) W/\¬X w.heap.size/\¬X (w.heap.size+1)/\W.heap[w.heap.size+1]?=some (.loop (ab .done (some c)))/\W.heap[w.heap.size]?=some (.deferred (some [])))
  W1 (af I hI _)
  (λs X X' W W' ⟨c,h⟩ hm hx=>⟨c,af (λ(_:Unit)=>Ix c) (hIx c) _ s X X' W W' h hm hx⟩)
  (λs X W h=>hRd s _ W h.1) ?_ ⟨bc,λh=>h,λh=>h,az,a1⟩).mono ?_
 ·
   rintro s x X W⟨hi,hd,aj,hl,hk⟩ bb al a8
   have a7:¬Y X (yb x):=λe=>by
    unfold Blk at al;rw [hY] at e
    rcases e with e|e|e
    ·exact a8 e
    ·rw [e,hk] at al;simp at al
    rw [e,hl] at al;simp at al
   have aw:w.heap.size+1<W.heap.size:=(N5.1 hl).1;have hy:=run_yield (P:=P) (args:=encs x) hl (by rw [aa];exact hps x);rw [aa] at hy;refine⟨fn,_,assign,body,hy,roundIn_of_wpIn hfn (hassign _ s x (Y X) W _ hi bb al a7 ?_)⟩;intro a' Wa hax hsv;have a4:Wa.heap[w.heap.size+1]?=some (.loop (ab .ready none)):=(hsv.2 _ (ae X) aw).trans hl;have a5:Wa.heap[w.heap.size]?=some (.deferred (some [])):=(hsv.2 _ (ao X) (by omega)).trans hk;have ap:w.heap.size+1<Wa.heap.size:=(N5.1 a4).1;refine⟨_,run_beginRound a4 (by rw [aa]),?_⟩;obtain⟨W2,ak⟩:∃W2,Wa.putObj (w.heap.size+1) (.loop {ab .ready none with state:=.busy})=W2:=⟨_,rfl⟩;have ar:W2.heap[w.heap.size+1]?=some (.loop {ab .ready none with state:=.busy}):=by rw [← ak];exact World.putObj_heap_same ap
   have ba:W2.heap[w.heap.size]?=some (.deferred (some [])):=by rw [← ak];exact(U1 (by omega)).trans a5
   have aq:Ax s x a' (Y X) W2:=by rw [← ak];exact ac (hAx s x a') () X Wa _ _ (ae X) hax
   have a6:W2.heap.size=Wa.heap.size:=by rw [← ak];simp
   rw [ak];refine wpIn_mono (hbody _ s x a' (Y X) W2 aq (ae X) ⟨_,ar⟩) ?_
   have fin:∀(jump:Option Code)(W3:World),jm (Y X) W2 W3->
    (Instr.endRound (w.heap.size+1) jump).run P W3=.ok (.bool jump.isNone) (W3.putObj (w.heap.size+1) (.loop (ab (if jump.isNone then .ready else .done) jump)))/\
    (W3.putObj (w.heap.size+1) (.loop (ab (if jump.isNone then .ready else .done) jump))).heap[w.heap.size+1]?=some (.loop (ab (if jump.isNone then .ready else .done) jump))/\
    (W3.putObj (w.heap.size+1) (.loop (ab (if jump.isNone then .ready else .done) jump))).heap[w.heap.size]?=some (.deferred (some []))/\
    jm X W (W3.putObj (w.heap.size+1) (.loop (ab (if jump.isNone then .ready else .done) jump))):=λjump W3 ad=>by
    have ax:=(N5.1 ar).1;have a0:=(ad.2 _ (ae X) ax).trans ar;have au:=(ad.2 _ (ao X) (by omega)).trans ba;have:=run_endRound (P:=P) jump a0;rw [aa] at this⊢;refine⟨this,World.putObj_heap_same (N5.1 a0).1,(U1 (by omega)).trans au,?_,?_⟩
    ·have:=hsv.1;have:=ad.1;simp;omega
    intro k hx hk
    have a2:k≠w.heap.size+1:=λe=>aj (e ▸ hx)
    rw [U1 a2];have ay:Y X k:=by rw [hY];exact .inl hx
    have h2:=ad.2 k ay (by have:=hsv.1;omega);have h3:W2.heap[k]?=Wa.heap[k]?:=by rw [← ak];exact U1 a2
    rw [h2,h3];exact hsv.2 k ay hk
   rintro e a3 W3 hp
   cases e with
   |normal=>
    obtain⟨ai,ad⟩:=hp;obtain⟨hr,ag,ah,am⟩:=fin none W3 ad;exact⟨_,_,hr,.inl ⟨rfl,⟨ac hI _ X W3 _ _ (ae X) ai,hd,aj,ag,ah⟩,am⟩⟩
   |ret=>
    obtain⟨ai,ad⟩:=hp;obtain⟨hr,ag,ah,am⟩:=fin (some .ret) W3 ad;exact⟨_,_,hr,.inr ⟨rfl,.ret,ac (hIx _) () X W3 _ _ (ae X) ai,hd,aj,ag,ah⟩⟩
   |exit id=>
    obtain⟨ai,ad⟩:=hp;obtain⟨hr,ag,ah,am⟩:=fin (some (.exit id)) W3 ad;exact⟨_,_,hr,.inr ⟨rfl,.exit id,ac (hIx _) () X W3 _ _ (ae X) ai,hd,aj,ag,ah⟩⟩
   |goto t=>
    obtain⟨ai,ad⟩:=hp;obtain⟨hr,ag,ah,am⟩:=fin (some (.goto t)) W3 ad;exact⟨_,_,hr,.inr ⟨rfl,.goto t,ac (hIx _) () X W3 _ _ (ae X) ai,hd,aj,ag,ah⟩⟩
   |panic ch=>exact hp.elim
   |outgrown=>exact hp.elim
 
 rintro e W2⟨⟨v,rfl⟩,(⟨s,X,hS,hi,hd,aj,hl,hk⟩|⟨X,c,hi,hd,aj,hl,hk⟩)⟩
 ·exact⟨none,_,by have:=run_endLoop (P:=P) hl (by rw [aa];simp);rw [aa] at this;exact this,hdone _ s (Y X) _ (N0 _) (ao X) hS (ac hI _ X W2 _ _ (ae X) hi) ((U1 (by omega)).trans hk)⟩
 exact⟨some c,_,by have:=run_endLoop (P:=P) hl (by rw [aa];simp);rw [aa] at this;exact this,hstop _ c (Y X) _ (N0 _) (ao X) (ac (hIx c) () X W2 _ _ (ae X) hi) ((U1 (by omega)).trans hk)⟩
theorem zhY {α σ:Type}{g:Operand}{ps:Array Tmp}{assign body:Code}{Q:Exit->Act->World->Prop}{a:Act}{w:World}
 {gf:Nat} {lb:Array Value} (hg:a.eval g=.func (.func gf) #[] lb) (eg:∀args w,(callFunc gf args).run P w=.ok (.enter gf args) w)
 {encs:α->Array Value} {nx:σ->α->Prop} {st:σ->α->σ} {fin:σ->Prop} {Rd:σ->World->Prop} {s0:σ} {yb:α->Nat} {yc:α->Array Value} {yt:TypeId} (hit:zlt Fence.wide 2 P gf lb encs nx st fin Rd yb yc yt s0) (hps:∀x,(encs x).size=ps.size)
 (I:σ->(Nat->Prop)->World->Prop) (Ix:Code->(Nat->Prop)->World->Prop) (hI:Jc I) (hIx:∀c,Jc λ(_:Unit)=>Ix c) (hRd:∀s X W,I s X W->Rd s W) (h0:I s0 (λ_=>False) w)
 (Ax:σ->α->Act->(Nat->Prop)->World->Prop) (hAx:∀s x a',Jc λ(_:Unit)=>Ax s x a')
 (hassign:∀(l:Nat)(s:σ)(x:α)(X:Nat->Prop)(W:World)(K:Act->World->Prop),I s X W->nx s x->Blk W (yb x) (yc x) yt->¬X (yb x)->(∀a' W',Ax s x a' X W'->jm X W W'->K a' W')->
  assign.wpIn (Fence.wide.inRound l) 1 P (Exit.then K (λ_ _ _=>False)) {tmps:=(ps.zip (encs x)).foldl (λt (p,v)=>t.setIfInBounds p v) a.tmps,defers:=[] } W)
 (hbody:∀(l:Nat)(s:σ)(x:α)(a':Act)(X:Nat->Prop)(W:World),Ax s x a' X W->X l->(∃r,W.heap[l]?=some (.loop r))->
  body.wpIn (Fence.wide.inRound l) 1 P (zbM I Ix (st s x) X W) a' W)
 (hdone:∀(D:Nat)(s:σ)(X:Nat->Prop)(W:World),w.heap.size<=D->X D->fin s->I s X W->W.heap[D]?=some (.deferred (some []))->Q .normal {a with defers:={target:=.collected D,args:=#[] } ::a.defers} W)
 (hstop:∀(D:Nat)(c:Code)(X:Nat->Prop)(W:World),w.heap.size<=D->X D->Ix c X W->W.heap[D]?=some (.deferred (some []))->c.wp P Q {a with defers:={target:=.collected D,args:=#[] } ::a.defers} W):
 (Code.rangeFunc g ps assign body).wp P Q a w:=
 (wpIn_wide (n:=3)).1 (zdV (F:=Fence.wide) (n:=3) rfl (by omega) hg trivial eg hit hps I Ix hI hIx hRd h0 Ax hAx hassign hbody hdone
  (λD c X W h1 h2 h3 h4=>wpIn_wide.2 (hstop D c X W h1 h2 h3 h4)))
end
open Go Go.RowKit Go.Shelf Go.Extern.Stop Go.Stop Go.Extern
attribute [local go_sem] Oper.semAt_some zB zo
theorem Jk(c:UInt8):∀(l:List UInt8),(jG c l).length<=l.length+1/\∀x∈jG c l,x.length<=l.length
 | []=>by simp [jG]
 |y::l=>by
  obtain⟨h1,h2⟩:=Jk c l;unfold jG
  split
  ·refine⟨by simpa using h1,λx hx=>?_⟩
   rcases List.mem_cons.1 hx with e|e
   ·rw [e];simp
   have:=h2 x e;simp only [List.length_cons];omega
  split
  ·rename_i h;rw [h] at h1 h2
   refine⟨by simp,λx hx=>by rw [List.mem_singleton.1 hx];simp⟩
  rename_i h t he
  rw [he] at h1 h2;refine⟨by simpa using Nat.le_succ_of_le h1,λx hx=>?_⟩
  rcases List.mem_cons.1 hx with e|e
  ·rw [e]
   have:=h2 h (List.mem_cons_self ..);simp only [List.length_cons];omega
  have:=h2 x (U7 _ e);simp only [List.length_cons];omega
structure vH where
 num:Nat
 ws:List (List UInt8)
 b:Nat
 C:Array Value
 cap:Nat
def xR(x:vH):Value:=.agg #[.int .i64 (x.num:Nat),.slice (some ⟨x.b,0,none⟩) x.ws.length x.cap]
def zk0(ws:List (List UInt8))(C:Array Value):Prop:=∀(i:Nat)(y:List UInt8),ws[i]?=some y->C[i]?=some (Zc y)
theorem zfZ(cb:Nat)(text:List UInt8)(hlen:text.length<=70000):
 zlt Fence.wide 2 prog 116 #[.pointer (some ⟨cb,0,none⟩)] (λx:vH=> #[xR x])
  (λ(s:List JK) x=>s.head?=some (x.num,x.ws)/\x.ws.length<=x.cap/\x.ws≠ [] /\(∀y∈x.ws,y.length<=70000)/\x.num<=70001/\x.cap<=70001/\zk0 x.ws x.C) (λs _=>s.tail) (λs=>s=[])
  (λ_ W=>Blk W cb #[.string (bs text)] 9/\ZG W) (·.b) (·.C) 9 (j5 text):=by
 intro lp J Jx W hJ hJx hRd hY h0;obtain⟨r0,r1⟩:=hRd _ _ _ h0;have e0:=r0.cell;have hF:Fence.wide.fn 116:=trivial;have bm:Fence.wide.round=none:=rfl;obtain⟨L,hL⟩:∃L,jG 10 text=L:=⟨_,rfl⟩;have ax:j5 text=jW 0 L:=by unfold j5;rw [hL]
 rw [ax] at h0;obtain⟨bc,am⟩:=Jk 10 text;have ab:=zbV 10 text (by omega) W r1;rw [hL] at ab bc am;have bo:=qH;replace ab:=hid ab;replace am:=hid am;replace ax:=hid ax;replace hL:=hid hL;clear r0 r1;refine callsIn_of_wp func116 rfl hF ?_ bm;simp only [ntmps116,R8,Nat.reduceAdd,Nat.reduceSub]
 gi_wp2_with fail
 refine(callsIn_wide.2 ab.out).mono ?_;rintro e w1⟨rfl,au⟩;obtain⟨sb,an⟩:∃sb,W.heap.size=sb:=⟨_,rfl⟩;have a6:Blk w1 sb (L.map Zc).toArray 9:=by rw [au,← an];exact Blk.new rfl
 have a7:J (jW 0 L) (λk=>k=sb) w1:=by
  rw [au];exact hJ _ _ _ _ _ h0 (Mod.alloc _ _ _) (λk hk=>.inr (by subst hk;rw [an];simp;omega))
 rw [an];clear h0 e0 ab au an
 gi_wp2
 gi_loopw [9] (λp9 wr=>∃i:Nat,p9=.int .i64 (i:Nat)/\i<=L.length/\J (jW i (L.drop i)) (λk=>k=sb) wr/\Blk wr sb (L.map Zc).toArray 9) (λp9 _=>L.length - (intOf p9).toNat)
 case atStart=>exact⟨0,rfl,Nat.zero_le _,a7,a6⟩
 case round=>
  obtain⟨i,rfl,hi,aj,hS⟩:=hrel;clear a7 a6
  by_cases hlt:i<L.length
  ·obtain⟨s,hs⟩:∃s,L[i]?=some s:=⟨_,N3 hlt⟩
   have a0:L.drop i=s::L.drop (i+1):=by
    rw [List.drop_eq_getElem_cons hlt,(N6.1 hs).2]
   rw [a0] at aj;have bp:=am.out s (List.mem_of_getElem? hs);obtain⟨-,bk⟩:=hRd _ _ _ aj;have c0:wr.cell? ⟨sb,i,none⟩=some (.string (bs s)):=by rw [hS.cell,List.getElem?_toArray,List.getElem?_map,hs];rfl
   have ab:=zbV 32 s (by omega) wr bk;obtain⟨ba,al⟩:=Jk 32 s;have ag:(jG 32 s).filter full=vP s:=rfl;obtain⟨ss,aq⟩:∃ss,jG 32 s=ss:=⟨_,rfl⟩;rw [aq] at ab ba al ag;have t1:decide ((i:Int)<(L.length:Int))=true:=by simpa using hlt
   have y0:(0:Int)<=(i:Int):=by omega
   have y1:(i:Int)<(L.length:Int):=by omega
   have bq:IntKind.i64.wrap ((i:Int)+1)=(i:Int)+1:=by rw [N8];omega
   replace ab:=hid ab;replace aq:=hid aq;replace hs:=hid hs;replace a0:=hid a0;replace al:=hid al;replace hS:=hid hS
   gi_wp2_with fail
   refine(callsIn_wide.2 ab.out).mono ?_;rintro e w2⟨rfl,ap⟩;have bj:w2.heap.size=wr.heap.size+1:=by rw [ap];simp
   have k2:Blk w2 wr.heap.size (ss.map Zc).toArray 9:=by rw [ap];exact Blk.new rfl
   have a8:Mod (λ_=>False) wr w2:=by rw [ap];exact Mod.alloc _ _ _
   have aa:=zcc wr.heap.size ss (by omega) w2 k2;rw [ag] at aa;clear ap ab;replace aa:=hid aa
   gi_wp2_with fail
   refine(callsIn_wide.2 aa.out).mono ?_;rintro e w3⟨C,rfl,k3,hC,a5⟩;clear aa k2;have af:=a8.trans (Z:=λ_=>False) a5 (λ_ _ e=>e) (λk hk e=>by omega);have a3:Mod (λk=>k=sb) wr w3:=af.mono (λ_ _ h=>h.elim);have bg:=hS.out.lt;have bb:=k3.lt;have a9:Blk w3 sb (L.map Zc).toArray 9:=hS.out.mod af (λh=>h)
   have a4:∀W4,W4=w3.alloc (.cells #[.int .i64 ((i:Int)+1),.slice (some ⟨wr.heap.size,0,none⟩) (vP s).length ss.length] 109)->Blk W4 w3.heap.size #[.int .i64 ((i:Int)+1),.slice (some ⟨wr.heap.size,0,none⟩) (vP s).length ss.length] 109/\Blk W4 wr.heap.size C 9/\Blk W4 sb (L.map Zc).toArray 9/\J (jW i (s::L.drop (i+1))) (λk=>k=sb) W4:=λW4 e=>by
    subst e;exact⟨Blk.new rfl,k3.alloc _,a9.alloc _,hJ _ _ _ _ _ aj (a3.thenAlloc _) (λk hk=>.inl hk)⟩
   obtain⟨W4,ad⟩:∃W4,W4=w3.alloc (.cells #[.int .i64 ((i:Int)+1),.slice (some ⟨wr.heap.size,0,none⟩) (vP s).length ss.length] 109):=⟨_,rfl⟩;obtain⟨kl,kw,ai,ae⟩:=a4 W4 ad;have bn:w3.heap.size<W4.heap.size:=kl.lt;clear a4 a8 af a3 a5 aj a9 bj;have ay:jW i (s::L.drop (i+1))=if zaJ (vP s)then(i+1,vP s)::jW (i+1) (L.drop (i+1))else jW (i+1) (L.drop (i+1)):=by rw [jW]
   rw [ay] at ae;replace ay:=hid ay
   have ao:∀y∈vP s,y.length<=70000:=λy hy=>by
    have:=al.out y (by rw [← ag] at hy;exact(List.mem_filter.1 hy).1);omega
   have a2:(vP s).length<=ss.length:=by rw [← ag];exact List.length_filter_le _ _
   have ar:∀y∈vP s,full y=true:=λy hy=>by rw [← ag] at hy;exact(List.mem_filter.1 hy).2
   obtain⟨ws,az⟩:∃ws,vP s=ws:=⟨_,rfl⟩;rw [az] at hC kl ae ao a2 ar ad⊢;have cl:=kl.cell;replace az:=hid az;replace ag:=hid ag;replace ar:=hid ar;replace ao:=hid ao;replace hC:=hid hC;replace ae:=hid ae;replace ai:=hid ai;replace kw:=hid kw;replace kl:=hid kl;replace k3:=hid k3
   rcases(show ws=[] ∨∃w0 r0,ws=w0::r0 by cases ws with|nil=>exact .inl rfl|cons a b=>exact .inr ⟨a,b,rfl⟩)with hw0|⟨w0,r0,hw0⟩
   ·subst hw0
    have t2:(((0:Nat):Int)==0)=true:=rfl;simp only [List.length_nil] at cl ad
    gi_wp2_with fail
    rw [← ad];clear ad;exact⟨⟨i+1,by simp,by omega,by simpa [zaJ] using ae.out,ai.out⟩,by simp [intOf];omega⟩
   have aw:ws.length=r0.length+1:=by rw [hw0];rfl
   have t2:((ws.length:Int)==0)=false:=by rw [aw];simp;omega
   have y2:(0:Int)<(ws.length:Int):=by omega
   have cw:W4.cell? ⟨wr.heap.size,0,none⟩=some (.string (bs w0)):=by
    rw [kw.out.cell];exact hC.out 0 w0 (by rw [hw0];rfl)
   rw [ad] at cw;have ak:=Tryz.strings_HasPrefix (bs w0) ⟨#[59]⟩ W4;rw [xE] at ak;obtain⟨px,ac⟩:∃p,Lib.hasPrefix w0 [59]=p:=⟨_,rfl⟩;have ah:Lib.hasPrefix w0 (⟨#[59]⟩:ByteArray).data.toList=px:=ac;rw [ah] at ak;have a1:zaJ ws= !px:=by rw [hw0,← ac];rfl
   rw [a1] at ae;replace ak:=hid ak;replace ac:=hid ac;replace ah:=hid ah;replace a1:=hid a1;replace hw0:=hid hw0;replace aw:=hid aw
   gi_wp2_with fail
   rw [← ad];clear ad;refine(callsIn_wide.2 ak.out).mono ?_;rintro e w5⟨rfl,bh⟩;obtain rfl:=bh.symm
   cases px with
   |true=>
    gi_wp2_with fail
    exact⟨⟨i+1,by simp,by omega,by simpa using ae.out,ai.out⟩,by simp [intOf];omega⟩
   |false=>
    have bi:wr.heap.size≠sb:=by have:=hS.out.lt;omega
    obtain⟨fn,tmps,assign,body,hy,hR⟩:=hY ((i+1,ws)::jW (i+1) (L.drop (i+1))) ⟨i+1,ws,wr.heap.size,C,ss.length⟩ (λk=>k=sb) W4 (by simpa using ae.out) ⟨rfl,a2,by rw [hw0.out];simp,ao.out,by show i+1<=70001;omega,by show ss.length<=70001;omega,hC.out⟩ kw.out bi;unfold xR at hy;simp only at hy;rw [show(((i+1:Nat):Int))=(i:Int)+1 by simp] at hy
    gi_wp2
    refine hR.mono ?_;rintro e W'(⟨rfl,bd,be⟩|⟨rfl,bf⟩)
    ·have bl:Blk W' sb (L.map Zc).toArray 9:=ai.out.kept (be.2 sb rfl ai.out.lt)
     clear hR hy
     gi_wp2
     exact⟨⟨i+1,by simp,by omega,bd,bl⟩,by simp [intOf];omega⟩
    gi_wp2
    refine bodyPost_ret (results_none rfl _ _ _) rfl ?_;exact⟨⟨_,rfl⟩,.inr ⟨_,bf⟩⟩
  obtain rfl:i=L.length:=by omega
  have t1:decide ((L.length:Int)<(L.length:Int))=false:=by simp
  rw [List.drop_length] at aj
  gi_wp2
  go_end0
  exact⟨⟨_,rfl⟩,.inl ⟨_,_,rfl,aj⟩⟩
def qR(x:vH):List Value:=[.int .i64 (x.num:Nat),.slice (some ⟨x.b,0,none⟩) x.ws.length x.cap]
theorem zmP:Yf prog 99 109 2 32 (.agg #[.int .i64 0,.slice none 0 0]):=⟨Tryz.underlying99,by kernel_rfl,rfl,by decide,by decide⟩
theorem zhZ(l:List vH):∀u∈l.flatMap qR,u.oneCell'=true:=by
 intro u hu;obtain⟨m,_,hm⟩:=List.mem_flatMap.1 hu;simp only [qR,List.mem_cons,List.mem_nil_iff,or_false] at hm
 rcases hm with rfl|rfl<;>rfl
def vw(x:vH)(W:World):Prop:=Blk W x.b x.C 9/\x.ws.length<=x.cap/\x.ws≠ [] /\(∀y∈x.ws,y.length<=70000)/\x.num<=70001/\x.cap<=70001/\zk0 x.ws x.C
theorem vw.kept {x:vH}{W W':World}(h:vw x W)(hk:W'.heap[x.b]?=W.heap[x.b]?):vw x W':=⟨h.1.kept hk,h.2⟩
theorem Yn:∀(l:List (List UInt8)) (i:Nat),(jW i l).length<=l.length
 | [],_=>N0 _
 |s::l,i=>by
  have:=Yn l (i+1);unfold jW
  split
  ·simp only [List.length_cons];omega
  simp only [List.length_cons];omega
def ZA(x:vH):JK:=(x.num,x.ws)
def zcd(l:List JK)(rb:Nat)(W0:World)(s:List JK)(X:Nat->Prop)(W:World):Prop:=
 Fr (λk=>k=rb) W0 X W/\∃(bl:List vH)(pv:Value),bl.map ZA++s=l/\Blk W rb #[pv] 99/\Row W 109 2 pv bl.length (bl.flatMap qR)/\(∀g,pv.ownBlock=some g->W0.heap.size<=g/\¬X g)/\∀x∈bl,vw x W/\¬X x.b
theorem zcd.stab {l:List JK}{rb:Nat}{W0:World}(h1:rb<W0.heap.size):Jc (zcd l rb W0):=by
 intro s X X' W W' ⟨hfr,bl,pv,he,kp,kw,hn,hb⟩ hm hx;refine⟨hfr.step hm hx,bl,pv,he,kp.kept (hfr.block hm h1),kw.mod hm (λg hg=>(hn g hg).2),λg hg=>⟨(hn g hg).1,λhX=>?_⟩,λx hxb=>⟨(hb x hxb).1.kept (hm.block _ (hb x hxb).1.1.lt (hb x hxb).2),λhX=>?_⟩⟩
 ·rcases hx g hX with h|h
  ·exact(hn g hg).2 h
  have:=kw.lt hg;omega
 rcases hx _ hX with h|h
 ·exact(hb x hxb).2 h
 have:=(hb x hxb).1.1.lt;omega
theorem zf0(cb:Nat)(text:List UInt8)(hlen:text.length<=70000)(w:World)(h:Blk w cb #[.string (bs text)] 9)(hmx:ZG w):
 Calls prog 115 #[.slice none 0 0,.func (.func 116) #[] #[.pointer (some ⟨cb,0,none⟩)]] w λe w'=>
  ∃(bl:List vH)(lv:Value),e=.returned lv/\bl.map ZA=j5 text/\Row w' 109 2 lv bl.length (bl.flatMap qR)/\(∀x∈bl,vw x w')/\Below w.heap.size w w':=by
 have am:=hmx;obtain⟨mx,ap⟩:=hmx;have a9:=h.lt;have a5:3<w.heap.size:=jx ap;obtain⟨W0,ak⟩:∃W0,W0=w.alloc (.cells #[.slice none 0 0] 99):=⟨_,rfl⟩;have ao:Below w.heap.size w W0:=by rw [ak];exact zi (N2 _ _) _
 have kr:Blk W0 w.heap.size #[.slice none 0 0] 99:=by rw [ak];exact Blk.new rfl
 have bc:W0.heap.size=w.heap.size+1:=by rw [ak];simp
 have a1:=h.call ao;have a0:W0.cell? ⟨3,0,none⟩=some (.int .i64 mx):=(ao.cell a5).trans ap;clear h ap am;refine zl func115 rfl ?_;simp only [ntmps115,R8,Nat.reduceAdd,Nat.reduceSub];go_wp2;rw [← ak];clear ak
 refine zhY (gf:=116) (lb:=#[.pointer (some ⟨cb,0,none⟩)]) rfl (enters_of func116 (by kernel_rfl) rfl)
  (zfZ cb text hlen) (λ_=>rfl)
  (zcd (j5 text) w.heap.size W0)
  (λ_ _ _=>False)
  (zcd.stab (by omega))
  (λ_ _ X X' W W' h hm hx=>h)
  (λs X W h=>⟨a1.mod h.1.2 (by omega),mx,(h.1.2.cell (p:=⟨3,0,none⟩) (by show 3<_;omega) (by show¬3=_;omega)).trans a0⟩)
  ⟨Fr.refl _ _,[],_,rfl,kr,jc _ _ _,by simp [Value.ownBlock],λx hx=>by simp at hx⟩
  (λs x a' X W=>∃vb,a'={tmps:=#[.slice none 0 0,.func (.func 116) #[] #[.pointer (some ⟨cb,0,none⟩)],.pointer (some ⟨w.heap.size,0,none⟩),undef,.slice none 0 0,.pointer (some ⟨vb,0,none⟩),.func (.func 116) #[] #[.pointer (some ⟨cb,0,none⟩)],xR x,undef,undef,undef,undef,undef],defers:=[] } /\zcd (j5 text) w.heap.size W0 s X W/\s.head?=some (ZA x)/\vw x W/\¬X x.b/\Blk W vb (qR x).toArray 109/\¬X vb/\W0.heap.size<=vb) ?ax ?assign ?body ?done ?stop
 case ax=>
  rintro s x a' u X X' W W'⟨vb,ha,h1,h2,h3,h4,h5,h6,h7⟩ hm hx;refine⟨vb,ha,zcd.stab (by omega) _ _ _ _ _ h1 hm hx,h2,h3.kept (hm.block _ h3.1.lt h4),λh=>?_,h5.mod hm h6,λh=>?_,h7⟩
  ·rcases hx _ h with e|e
   ·exact h4 e
   have:=h3.1.lt;omega
  rcases hx _ h with e|e
  ·exact h6 e
  have:=h5.lt;omega
 case assign=>
  intro l s x X W K hI hn hbk hnX hK;have a2:=hI.1.2.size;have a7:=hI.1.next
  have az:∀W2,W2=W.alloc (.cells (qR x).toArray 109)->jm X W W2/\zcd (j5 text) w.heap.size W0 s X W2/\vw x W2/\Blk W2 W.heap.size (qR x).toArray 109:=λW2 e=>by
   subst e;exact⟨jm.of_mod (Mod.alloc (λ_=>False) _ _) (λ_ _ _ h=>h),zcd.stab (by omega) _ _ _ _ _ hI (Mod.alloc _ _ _) (λ_ h=>.inl h),⟨hbk.alloc _,hn.2⟩,Blk.new rfl⟩
  unfold qR at az;unfold xR at hK⊢
  gi_wp2
  obtain⟨q1,q2,q3,q4⟩:=az _ rfl;exact hK _ _ ⟨W.heap.size,rfl,q2,by rw [hn.1];rfl,q3,hnX,q4,a7,a2⟩ q1
 case stop=>rintro D c X W hD au h;exact h.elim
 case body=>
  rintro l' s x a' X W⟨vb,rfl,⟨af,bl,pv,he,ad,ae,hn,ab⟩,aq,an,a4,kx,ba,bd⟩ a8 _;have e0:=kx.cell;unfold qR at e0;have lc:=kx.lt;have lp:=ad.lt;have a6:=ad.cell
  have bb:bl.length<=70001:=by
   have h1:=congrArg List.length he;have h2:=Yn (jG 10 text) 0;have h3:=(Jk 10 text).1;unfold j5 at h1;simp only [N1,List.length_map] at h1;omega
  have aa:bl.length+1<=1073741824:=by omega
  have ag:∀g,pv.ownBlock=some g->g≠w.heap.size/\g≠x.b/\∀y∈bl,g≠y.b:=λg hg=>⟨ae.ne_blk ad (by decide) hg,ae.ne_blk an.1 (by decide) hg,λy hy=>ae.ne_blk (ab y hy).1.1 (by decide) hg⟩
  replace aa:=hid aa;replace hn:=hid hn;replace ag:=hid ag;replace ab:=hid ab;unfold xR
  gi_wp2_with (gi_at_builtin
               obtain⟨bh,W3,ah,ai,ay,ac⟩:=zM zmP (ae.below ((N2 _ _).alloc (N0 _) (.cells #[.int .i64 (x.num:Nat),.slice (some ⟨x.b,0,none⟩) x.ws.length x.cap] 109))) (jD (n:=1) (size:=2) (cap:=1) (Blk.new (w:=W) (cs:=#[.int .i64 (x.num:Nat),.slice (some ⟨x.b,0,none⟩) x.ws.length x.cap]) (t:=109) rfl) rfl (N0 1)) (zhZ [x]) aa.out 99;refine jO rfl _ _ _ rfl rfl rfl ah ?_;have al:Blk W3 w.heap.size #[pv] 99:=(ad.alloc _).kept (ay.block _ (by simp;omega) (λe=>(ag.out _ e.symm).1 rfl));have be:=al.cell;have bg:=al.frozen;have bi:=al.lt;obtain⟨sa,sm,sc,rfl⟩:=ai.shape
               clear ah)
  have hm:Mod (λk=>k=w.heap.size∨pv.ownBlock=some k) W (W3.setCell ⟨w.heap.size,0,none⟩ (.slice sa sm sc)):=
   (((Mod.refl (λk=>k=w.heap.size∨pv.ownBlock=some k) W).thenAlloc _).trans (Mod.grown ay (λk h=>.inr h)) (λ_ _ e=>e) (λ_ _ e=>e)).thenSet (p:=⟨w.heap.size,0,none⟩) (.inl rfl) _
  have aw:∀y,Blk W y.b y.C 9->(∀g,pv.ownBlock=some g->g≠y.b)->(W3.setCell ⟨w.heap.size,0,none⟩ (.slice sa sm sc)).heap[(y:vH).b]?=W.heap[y.b]?:=λy hy hg=>hm.block _ hy.lt (λe=>by
   rcases e with e|e
   ·unfold Blk at hy ad
    rw [e,ad] at hy;simp at hy
   exact hg _ e rfl)
  refine⟨⟨af.mod hm (λk hk h=>?_),bl++ [x],_,?_,al.set _,?_,?_,λy hy=>?_⟩,jm.of_mod hm (λk hk hX h=>?_)⟩
  ·rcases h with h|h
   ·exact h
   have:=(hn.out k h).1;omega
  ·rw [← he]
   cases s with
   |nil=>simp at aq
   |cons a r=>
    simp only [List.head?_cons,Option.some.injEq] at aq;simp [aq]
  ·simp only [N1,U2,U5]
   refine Row.kept (w:=W3) ai (λg hg=>N4 _ _ _ _ (show g≠w.heap.size from λe=>?_));rw [hg] at ac
   rcases ac with h|h
   ·exact(ag.out _ h.symm).1 e
   simp at h;omega
  ·intro g hg
   rw [hg] at ac
   rcases ac with h|h
   ·exact hn.out g h.symm
   simp at h
   have:=af.2.size;exact⟨by omega,λhX=>by have:=(af.1 g hX).2;omega⟩
  ·rcases List.mem_append.1 hy with hy|hy
   ·exact⟨(ab.out y hy).1.kept (aw y (ab.out y hy).1.1 (λg hg=>(ag.out g hg).2.2 y hy)),(ab.out y hy).2⟩
   obtain rfl:=List.mem_singleton.1 hy
   exact⟨an.kept (aw _ an.1 (λg hg=>(ag.out g hg).2.1)),a4⟩
  have:=af.1 k hX
  rcases h with h|h
  ·omega
  exact(hn.out k h).2 hX
 case done=>
  rintro D s X W hD au ar⟨af,bl,pv,he,ad,ae,hn,ab⟩ aj;obtain rfl:s=[]:=ar;rw [List.append_nil] at he;have a6:=ad.cell;have bf:=(N5.1 aj).1;have a3:Below w.heap.size w W:=ao.trans (af.below (by omega) (λk h=>by omega));replace hn:=hid hn;replace ab:=hid ab;go_wp2;refine QW (D:=D) (v:=pv) aj (by simp [results,Tryz.results115,go_sem]) ?_;refine⟨bl,pv,rfl,he,ae.kept (λg hg=>U1 (λe=>(hn.out g hg).2 (by rw [e];exact au))),λx hx=>(ab.out x hx).1.kept (U1 (λe=>(ab.out x hx).2 (by rw [e];exact au))),zS a3 (by omega) _⟩
theorem zdW(cb:Nat)(text:List UInt8)(hlen:text.length<=70000)(w:World)(h:Blk w cb #[.string (bs text)] 9)(hmx:ZG w):
 Calls prog 76 #[.func (.func 116) #[] #[.pointer (some ⟨cb,0,none⟩)]] w λe w'=>
  ∃(bl:List vH)(lv:Value),e=.returned lv/\bl.map ZA=j5 text/\Row w' 109 2 lv bl.length (bl.flatMap qR)/\(∀x∈bl,vw x w')/\Below w.heap.size w w':=by
 have ha:=zf0 cb text hlen w h hmx;replace ha:=hid ha;clear h hmx
 go_enter func76,ntmps76
 go_wp2_with fail
 refine ha.out.mono ?_;rintro e w1⟨bl,lv,rfl,h1,h2,h3,h4⟩;replace h3:=hid h3;go_wp2;go_ret
 exact⟨bl,lv,rfl,h1,h2,h3.out,h4⟩
theorem zmk {P:Nat×Nat×Nat->Prop}{c:Prop} [Decidable c] {x:Nat×Nat×Nat}{o:Option (Nat×Nat×Nat)}(hx:P x)(ho:∀y,o=some y->P y):∀y,(if c then some x else o)=some y->P y:=λy h=>by
 by_cases hc:c
 ·rw [if_pos hc] at h;cases h;exact hx
 rw [if_neg hc] at h;exact ho y h
theorem zj1 {s:List UInt8}{n k d:Nat}(h:zaK s=some (n,k,d)):n<=2/\k<=1/\d<=10:=by
 have H:∀y,zaK s=some y->(λy:Nat×Nat×Nat=>y.1<=2/\y.2.1<=1/\y.2.2<=10) y:=by
  unfold zaK
  repeat refine zmk (P:=λy:Nat×Nat×Nat=>y.1<=2/\y.2.1<=1/\y.2.2<=10) (by decide) ?_
  intro y h;cases h
 exact H _ h
theorem zf1 {ws:List (List UInt8)}{w0:List UInt8}{r:List (List UInt8)}(h0:ws=w0::r){n k d:Nat}(hf:zaK w0=some (n,k,d)):yO ws=if ws.length=1+n+k then !((ws.drop 1).take n).all vQ else true:=by
 unfold yO;rw [h0,List.headD_cons,hf]
theorem zdX(x:vH)(w:World)(h:vw x w):Calls prog 79 #[xR x] w λe w'=>e=.returned (.bool (yO x.ws))/\Below w.heap.size w w':=by
 obtain⟨num,ws,b,C,cap⟩:=x;obtain⟨kw,ao,ag,aj, -,aw,hC⟩:=h;unfold xR;simp only at kw ao ag aj aw hC⊢
 obtain⟨w0,r,h0⟩:∃w0 r,ws=w0::r:=by
  cases ws with
  |nil=>exact absurd rfl ag
  |cons a b=>exact⟨a,b,rfl⟩
 have ay:ws.length=r.length+1:=by rw [h0];rfl
 have al:=λW=>QY w0 W
 have y0:(0:Int)<(ws.length:Int):=by omega
 have c0:w.cell? ⟨b,0,none⟩=some (.string (bs w0)):=by rw [kw.cell];exact hC 0 w0 (by rw [h0];rfl)
 have az:=kw.lt;have ca:(w.alloc (.cells #[.int .i64 num,.slice (some ⟨b,0,none⟩) ws.length cap] 109)).cell? ⟨b,0,none⟩=some (.string (bs w0)):=jo c0 _;obtain⟨W0,af⟩:∃W0,W0=w.alloc (.cells #[.int .i64 num,.slice (some ⟨b,0,none⟩) ws.length cap] 109):=⟨_,rfl⟩;have ax:Below w.heap.size w W0:=by rw [af];exact zi (N2 _ _) _
 have k1:Blk W0 w.heap.size #[.int .i64 num,.slice (some ⟨b,0,none⟩) ws.length cap] 109:=by rw [af];exact Blk.new rfl
 have a8:W0.heap.size=w.heap.size+1:=by rw [af];simp
 replace al:=hid al;replace aj:=hid aj;replace hC:=hid hC;replace ag:=hid ag;replace h0:=hid h0;replace ay:=hid ay;have e1:=k1.cell;clear c0;obtain⟨a5,aa⟩:∃r,yO ws=r:=⟨_,rfl⟩;rw [aa];replace aa:=hid aa;refine zl func79 rfl ?_;simp only [ntmps79,R8,Nat.reduceAdd,Nat.reduceSub];go_wp2;rw [← af] at ca⊢;clear af;go_step3;go_wp2_with fail
 refine(al.out _).mono ?_;rintro e w1⟨rfl,ai⟩;have a9:=ai.size;have a1:=(kw.below ax az).call ai;have a0:=k1.call ai;have aq:=ze ax ai;clear ca e1 k1 kw
 cases hf:zaK w0 with
 |none=>
  have ac:yO ws=true:=by unfold yO;rw [h0.out,List.headD_cons,hf]
  unfold vu;simp only;go_wp2;rw [Exit.noGoto_ret];go_wp2;refine jp (v:=.bool true) (by simp [results,Tryz.results79,go_sem]) ⟨by rw [← aa.out,ac],pbx⟩
 |some f=>
  obtain⟨n,k,d⟩:=f;obtain⟨a4,a7,a3⟩:=zj1 hf;have ac:=zf1 h0.out hf;have a6:IntKind.i64.wrap (1+(n:Int))=1+(n:Int):=by rw [N8];omega
  have bb:IntKind.i64.wrap (1+(n:Int)+(k:Int))=1+(n:Int)+(k:Int):=by rw [N8];omega
  unfold vu;simp only;have e1:=(a0.alloc (.cells #[.int .i64 n,.int .i64 k,.int .i64 d] 209)).cell;have an:=a1.alloc (.cells #[.int .i64 n,.int .i64 k,.int .i64 d] 209)
  by_cases hl:ws.length=1+n+k
  ·have t1:((ws.length:Int) !=1+(n:Int)+(k:Int))=false:=by simp;omega
   rw [if_pos hl] at ac;have y1:(1:Int)<=1+(n:Int):=by omega
   have y2:(1:Int)+(n:Int)<=(cap:Int):=by omega
   replace hl:=hid hl;replace ac:=hid ac;obtain⟨W2,ae⟩:∃W2,W2=w1.alloc (.cells #[.int .i64 n,.int .i64 k,.int .i64 d] 209):=⟨_,rfl⟩;have am:Below w.heap.size w W2:=by rw [ae];exact zi aq _
   by_cases hc1:cap=1
   ·have ar:n=0:=by have:=hl.out;omega
    have au:yO ws=false:=by rw [ac.out,ar];rfl
    have t3:decide ((0:Int)<(n:Int))=false:=by simp;omega
    replace au:=hid au;replace ar:=hid ar;replace ao:=hid ao;subst hc1;go_wp2;go_step3;go_wp2;rw [← ae];clear ae e1 an
    go_loopw [5,37] (λp5 p37 wr=>p5=.bool false/\p37=.int .i64 0/\wr=W2) (λ_ p37 _=>0)
    case atStart=>exact⟨rfl,rfl,rfl⟩
    case round=>
     obtain⟨rfl,rfl,rfl⟩:=hrel;go_wp2;rw [Exit.noGoto_ret];go_wp2;refine jp (v:=.bool false) (by simp [results,Tryz.results79,go_sem]) ⟨by rw [← aa.out,au.out],am⟩
   go_wp2
   go_step3;go_wp2;rw [← ae] at an⊢;simp only [Nat.add_sub_cancel_left];clear ae e1
   go_loopw [5,37] (λp5 p37 wr=>∃q:Nat,p5=.bool false/\p37=.int .i64 (q:Nat)/\q<=n/\wr=W2/\((ws.drop 1).take q).all vQ=true) (λ_ p37 _=>n - (intOf p37).toNat)
   case atStart=>exact⟨0,rfl,rfl,Nat.zero_le _,rfl,rfl⟩
   case round=>
    obtain⟨q,rfl,rfl,hq,rfl,ab⟩:=hrel
    by_cases hlt:q<n
    ·have t3:decide ((q:Int)<(n:Int))=true:=by simpa using hlt
     have ba:IntKind.i64.wrap ((q:Int)+1)=(q:Int)+1:=by rw [N8];omega
     have z0:(0:Int)<=(q:Int):=by omega
     have z1:(q:Int)<(n:Int):=by omega
     obtain⟨s,hs⟩:∃s,(ws.drop 1)[q]?=some s:=⟨_,N3 (by rw [U3];have:=hl.out;omega)⟩;have ah:ws[1+q]?=some s:=by rw [List.getElem?_drop] at hs;exact hs
     have cq:wr.cell? ⟨b,1+q,none⟩=some (.string (bs s)):=by rw [an.cell];exact hC.out _ _ ah
     have ak:=zbU s (by have:=aj.out s (List.mem_of_getElem? ah);omega) wr;have ap:((ws.drop 1).take (q+1)).all vQ=(((ws.drop 1).take q).all vQ && vQ s):=by rw [List.take_add_one,hs];simp
     replace ak:=hid ak;replace hs:=hid hs;replace ah:=hid ah;replace ap:=hid ap;replace ab:=hid ab;go_wp2_with fail
     refine ak.out.mono ?_;rintro e w5⟨rfl,a2⟩;obtain rfl:=a2.symm
     cases hns:vQ s
     ·have ad:yO ws=true:=by
       rw [ac.out,Bool.not_eq_true',List.all_eq_false];exact⟨s,List.mem_of_getElem? (show((ws.drop 1).take n)[q]?=some s by rw [List.getElem?_take_of_lt hlt];exact hs.out),by rw [hns];simp⟩
      replace ad:=hid ad;go_wp2;rw [Exit.noGoto_ret];go_wp2;refine jp (v:=.bool true) (by simp [results,Tryz.results79,go_sem]) ⟨by rw [← aa.out,ad.out],am⟩
     go_wp2
     go_roundw
     case rel=>exact⟨q+1,rfl,by simp,by omega,trivial,by rw [ap.out,ab.out,hns];rfl⟩
     case measure=>simp [intOf];omega
    obtain rfl:q=n:=by omega
    have t3:decide ((q:Int)<(q:Int))=false:=by simp
    have ad:yO ws=false:=by rw [ac.out,ab];rfl
    replace ad:=hid ad;replace ab:=hid ab;go_wp2;rw [Exit.noGoto_ret];go_wp2;refine jp (v:=.bool false) (by simp [results,Tryz.results79,go_sem]) ⟨by rw [← aa.out,ad.out],am⟩
  have t1:((ws.length:Int) !=1+(n:Int)+(k:Int))=true:=by simp;omega
  rw [if_neg hl] at ac;go_wp2;rw [Exit.noGoto_ret];go_wp2;refine jp (v:=.bool true) (by simp [results,Tryz.results79,go_sem]) ⟨by rw [← aa.out,ac],pbx⟩
theorem zdY(l:List vH)(k:Nat)(x:vH)(h:l[k]?=some x)(j:Nat)(hj:j<2):(l.flatMap qR)[k*2+j]?=(qR x)[j]?:=by
 induction l generalizing k with
 |nil=>simp at h
 |cons y l ih=>
  cases k with
  |zero=>
   simp at h;subst h
   rw [List.flatMap_cons,Nat.zero_mul,Nat.zero_add,U8 (by simp [qR];omega)]
  |succ k=>
   simp at h
   have:=ih k h;rw [List.flatMap_cons,U6 (by simp [qR];omega)];rw [← this]
   congr 1
   simp [qR];omega
theorem zaW {W:World}{l:List vH}{b off cap:Nat}(h:Src W (.slice (some ⟨b,off,none⟩) l.length cap) 2 l.length (l.flatMap qR)){k:Nat}{x:vH}(hx:l[k]?=some x):
 W.cell? ⟨b,off+k*2,none⟩=some (.int .i64 (x.num:Nat))/\W.cell? ⟨b,off+k*2+1,none⟩=some (.slice (some ⟨x.b,0,none⟩) x.ws.length x.cap):=by
 rcases h.2 with⟨h, -⟩|⟨b',off',cap',h, -,hr⟩
 ·cases h
 cases h
 have aa:∀j u,(qR x)[j]?=some u->j<2->W.cell? ⟨b,off+(k*2+j),none⟩=some u:=λj u hu hj=>hr _ u ((zdY l k x hx j hj).trans hu)
 exact⟨aa 0 _ rfl (by omega),aa 1 _ rfl (by omega)⟩
theorem vw.below {x:vH}{W W':World}(h:vw x W)(hb:Below W.heap.size W W'):vw x W':=h.kept (hb.block _ h.1.lt)
theorem QA:∀args w,(callFunc 79 args).run prog w=.ok (.enter 79 args) w:=enters_of func79 (by kernel_rfl) rfl
theorem zce(lv:Value)(bl:List vH)(hl:bl.length<=100000)(w:World)(hs:Src w lv 2 bl.length (bl.flatMap qR))(hok:∀x∈bl,vw x w):
 Calls prog 78 #[lv,.func (.func 79) #[] #[]] w λe w'=>
  ((bl.find? (λx=>yO x.ws)=none/\e=.returned (.int .i64 (-1)))∨(∃(k:Nat)(x:vH),bl[k]?=some x/\bl.find? (λx=>yO x.ws)=some x/\e=.returned (.int .i64 (k:Nat))))/\Below w.heap.size w w':=by
 have ah:=QA;obtain⟨la,lc,rfl⟩:=hs.shape;replace hs:=hid hs;replace hok:=hid hok
 go_enter func78,ntmps78
 go_wp2
 go_loopw [8] (λp8 wr=>∃k:Nat,p8=.int .i64 (k:Nat)/\k<=bl.length/\Below w.heap.size w wr/\(∀x∈bl.take k,yO x.ws=false)) (λp8 _=>bl.length - (intOf p8).toNat)
 case atStart=>exact⟨0,rfl,Nat.zero_le _,N2 _ _,λx hx=>by simp at hx⟩
 case round=>
  obtain⟨k,rfl,hk,hb,aa⟩:=hrel
  by_cases hlt:k<bl.length
  ·have t3:decide ((k:Int)<(bl.length:Int))=true:=by simpa using hlt
   obtain⟨x,hx⟩:∃x,bl[k]?=some x:=⟨_,N3 hlt⟩;have af:=List.mem_of_getElem? hx;have ag:IntKind.i64.wrap ((k:Int)+1)=(k:Int)+1:=by rw [N8];omega
   have y0:(0:Int)<=(k:Int):=by omega
   have y1:(k:Int)<(bl.length:Int):=by omega
   have ab:=hs.out.below hb
   obtain⟨b,ac,rfl⟩:∃b ac,la=some ⟨b,ac,none⟩:=by
    rcases ab.2 with⟨e,h0⟩|⟨b,ac,cap,e, -, -⟩
    ·omega
    cases e;exact⟨b,ac,rfl⟩
   obtain⟨c0,c1⟩:=zaW ab hx;have hw:=zdX x wr ((hok.out x af).below hb);unfold xR at hw;have ad:bl.take (k+1)=bl.take k++ [x]:=by rw [List.take_add_one,hx];rfl
   replace hw:=hid hw;replace ad:=hid ad;replace aa:=hid aa;replace hx:=hid hx;replace ab:=hid ab;go_wp2_with fail
   refine hw.out.mono ?_;rintro e w1⟨rfl,ae⟩
   cases hxw:yO x.ws
   ·go_wp2
    go_roundw
    case rel=>
     refine⟨k+1,by simp,by omega,ze hb ae,λy hy=>?_⟩;rw [ad.out] at hy
     rcases List.mem_append.1 hy with h|h
     ·exact aa.out y h
     rw [List.mem_singleton.1 h];exact hxw
    case measure=>simp [intOf];omega
   go_wp2
   go_ret
   refine⟨.inr ⟨k,x,hx.out,?_,rfl⟩,ze hb ae⟩
   have h1:bl=bl.take k++x::bl.drop (k+1):=by
    conv=>lhs;rw [← List.take_append_drop k bl,List.drop_eq_getElem_cons hlt,(N6.1 hx.out).2]
   rw [h1,List.find?_append,List.find?_eq_none.2 (λy hy=>by rw [aa.out y hy];simp),Option.none_or];simp [hxw]
  obtain rfl:k=bl.length:=by omega
  have t3:decide ((bl.length:Int)<(bl.length:Int))=false:=by simp
  rw [List.take_length] at aa;replace aa:=hid aa;go_wp2;go_ret
  exact⟨.inl ⟨List.find?_eq_none.2 (λy hy=>by rw [aa.out y hy];simp),rfl⟩,hb⟩
theorem zj2 {l:List vH} :(l.map ZA).find? (λx=>yO x.2)=(l.find? (λx=>yO x.ws)).map ZA:=by
 rw [List.find?_map];rfl
theorem zaX(text:List UInt8)(w:World):Calls prog 77 #[.string (bs text)] w λe w'=>
 e=.returned (.func (.func 116) #[] #[.pointer (some ⟨w.heap.size,0,none⟩)])/\w'=w.alloc (.cells #[.string (bs text)] 9):=by
 go_enter func77,ntmps77
 go_wp2;go_ret
 exact⟨rfl,rfl⟩
def Xv(text:List UInt8)(w:World)(e:Ending)(w':World):Prop:=
 Below w.heap.size w w'/\∃(lv:Value)(bl:List vH),bl.map ZA=(qq text).1/\Src w' lv 2 bl.length (bl.flatMap qR)/\(∀x∈bl,vw x w')/\e=.returned (.tuple #[lv,.int .i64 ((qq text).2.1:Nat),.int .i64 (qq text).2.2])
theorem zaY(W:World):Src W (.slice none 0 0) 2 ([]:List vH).length (([]:List vH).flatMap qR):=⟨rfl,.inl ⟨rfl,rfl⟩⟩
theorem Q4(text:List UInt8)(hlen:text.length<=1000000)(w:World)(hmx:ZG w):Calls prog 39 #[.string (bs text)] w (Xv text w):=by
 have hz:=zI text
 by_cases h1:65536<text.length
 ·have t1:decide (65536<(text.length:Int))=true:=by simp;omega
  have hr:qq text=([],0,200):=by unfold qq;rw [if_pos h1]
  replace hr:=hid hr
  go_enter func39,ntmps39
  go_wp2;go_ret3
  exact⟨N2 _ _,.slice none 0 0,[],by rw [hr.out];rfl,zaY _,λx hx=>by simp at hx,by rw [hr.out];rfl⟩
 have t1:decide (65536<(text.length:Int))=false:=by simp;omega
 have al:=zaX text w;have ao:Below w.heap.size w (w.alloc (.cells #[.string (bs text)] 9)):=zi (N2 _ _) _;have aj:=zdW w.heap.size text (by omega) _ (Blk.new (w:=w) rfl) (hmx.below ao);replace aj:=hid aj;replace al:=hid al
 go_enter func39,ntmps39
 go_wp2_with fail
 refine al.out.mono ?_;rintro e w1⟨rfl,rfl⟩;go_wp2_with fail
 refine aj.out.mono ?_;rintro e w2⟨bl,lv,rfl,ab,hR,ac,ap⟩;obtain⟨la,lc,rfl⟩:=hR.src.shape;have af:=ze ao ap;have ag:bl.length=(j5 text).length:=by rw [← ab,List.length_map]
 by_cases h2:300<bl.length
 ·have t2:decide (300<(bl.length:Int))=true:=by simp;omega
  have hr:qq text=([],0,200):=by unfold qq;rw [if_neg h1,if_pos (by omega)]
  replace hr:=hid hr;replace ab:=hid ab;replace ag:=hid ag;replace ac:=hid ac;go_wp2;go_ret3
  exact⟨af,.slice none 0 0,[],by rw [hr.out];rfl,zaY _,λx hx=>by simp at hx,by rw [hr.out];rfl⟩
 have t2:decide (300<(bl.length:Int))=false:=by simp;omega
 have an:=zce _ bl (by omega) w2 hR.src ac;have ak:(j5 text).find? (λx=>yO x.2)=(bl.find? (λx=>yO x.ws)).map ZA:=by rw [← ab,zj2]
 have ae:qq text=match(j5 text).find? (λl=>yO l.2)with
  |some l=>([],l.1,201)
  |none=>(j5 text,0,0):=by
  unfold qq;rw [if_neg h1,if_neg (by omega)];rfl
 rw [ak] at ae;replace an:=hid an;replace ab:=hid ab;replace ag:=hid ag;replace ac:=hid ac;replace ak:=hid ak;replace ae:=hid ae;have am:=hR.src;replace hR:=hid hR;replace am:=hid am;go_wp2_with fail
 refine an.out.mono ?_;rintro e w3⟨he,ai⟩;have ad:=ze af ai;have aa:=am.out.below ai
 rcases he with⟨hf,rfl⟩|⟨k,x,hx,hf,rfl⟩
 ·have hr:qq text=(j5 text,0,0):=by rw [ae.out,hf];rfl
  replace hr:=hid hr;replace hf:=hid hf;replace aa:=hid aa;go_wp2;go_ret3
  exact⟨ad,_,bl,by rw [hr.out];exact ab.out,aa.out,λx hx=>(ac.out x hx).below ai,by rw [hr.out];rfl⟩
 have hr:qq text=([],x.num,201):=by rw [ae.out,hf];rfl
 have aq:=(N6.1 hx).1;have y0:(0:Int)<=(k:Int):=by omega
 have y1:(k:Int)<(bl.length:Int):=by omega
 obtain⟨b,ah,rfl⟩:∃b ah,la=some ⟨b,ah,none⟩:=by
  rcases aa.2 with⟨e,h0⟩|⟨b,ah,cap,e, -, -⟩
  ·omega
  cases e;exact⟨b,ah,rfl⟩
 obtain⟨c0,c1⟩:=zaW aa hx;replace hr:=hid hr;replace hf:=hid hf;replace hx:=hid hx;replace aa:=hid aa;go_wp2
 go_quiet (fail)
 go_wp2;go_ret3
 exact⟨zeQ ad _,.slice none 0 0,[],by rw [hr.out];rfl,zaY _,λx hx=>by simp at hx,by rw [hr.out];rfl⟩
