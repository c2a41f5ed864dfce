/- PARTS OF THE PROOF. -/
import Derived.Deep.RegionLaw
import Derived.IntWalk
import Derived.Test.YtofppfoioodblaaGreatDoorDA05
set_option maxRecDepth 8000
set_option maxHeartbeats 4000000
open Go.Proofs.Tryz
namespace Go.Proofs.YtofppfoioodblaaGreatDoor
section
open Go Go.RowKit Go.Shelf Go.Extern.Stop Go.Stop Go.Extern
attribute [local go_sem] Oper.semAt_some zB zo
theorem zaS(tk:List Nat)(lv:Value)(mb i c:Nat)(hi:i<tk.length):(jL tk lv mb).setIfInBounds i (.int .u32 c)=jL (tk.set i c) lv mb:=by
 simp [jL,List.set_append_left,hi,List.map_set]
theorem VV(tk:List Nat)(lv lv':Value)(mb:Nat)(h:tk.length=16):(jL tk lv mb).setIfInBounds 16 lv'=jL tk lv' mb:=by
 have h1:((tk.map λn:Nat=>Value.int .u32 (n:Int))).length=16:=by simpa using h
 unfold jL
 generalize(tk.map λn:Nat=>Value.int .u32 (n:Int))=l at h1
 simp [List.set_append_right,h1]
def zb4(B mb NB:Nat)(lv:Value)(tk:List Nat)(L:List zx)(WS:List (MId×zx))(W0:World)(acc:List zx)(nv:Value)(s:List (MId×zx)×Option zx)(X:Nat->Prop)(W:World):Prop:=
 acc++QZ s=L/\zb3 s=WS/\zdy s.1/\(∀x,s.2=some x->zz x=true)/\
  Fr (λk=>k=B∨k=mb∨k=NB) W0 X W/\
  Blk W B (jL (vR tk acc) lv mb) 358/\zZ W mb idV (s.1.map λp=>(p.1,vO p.2))/\Blk W NB #[nv] 42/\
  Row W 78 3 nv acc.length (acc.flatMap zh)/\(∀g,nv.ownBlock=some g->W0.heap.size<=g/\¬X g)
theorem zb4.stab {B mb NB:Nat}{lv:Value}{tk:List Nat}{L:List zx}{WS:List (MId×zx)}{W0:World}{acc:List zx}{nv:Value}{s:List (MId×zx)×Option zx}{X X':Nat->Prop}{W W':World}(hB:B<W0.heap.size)(hm:mb<W0.heap.size)(hN:NB<W0.heap.size)
 (h:zb4 B mb NB lv tk L WS W0 acc nv s X W) (hmod:Mod X W W') (hx:∀k,X' k->X k∨(W.heap.size<=k/\k<W'.heap.size)):zb4 B mb NB lv tk L WS W0 acc nv s X' W':=by
 obtain⟨h1,h2,h3,h4,aa,ab,hM,ac,hR,hn⟩:=h;refine⟨h1,h2,h3,h4,aa.step hmod hx,ab.kept (aa.block hmod hB),hM.kept (aa.block hmod hm),ac.kept (aa.block hmod hN),hR.mod hmod (λg hg=>(hn g hg).2),λg hg=>⟨(hn g hg).1,λhX=>?_⟩⟩
 rcases hx g hX with h|h
 ·exact(hn g hg).2 h
 have:=hR.lt hg;omega
def zjM(B:Nat)(t:List Nat)(ow:Own)(w:World)(R:vF×List zx×Int)(e:Ending)(w':World):Prop:=
 ∃v ow',e=.returned (.tuple #[v,.int .i64 R.2.2])/\zp t ow w ow' w'/\jP B R.1 t ow' w'/\
    Row w' 78 3 v R.2.1.length (R.2.1.flatMap zh)/\(∀g,v.ownBlock=some g->w.heap.size<=g/\ow' g=[])
theorem zjN(B:Nat)(b:vF)(t:List Nat)(_ht:t≠ [])(ow:Own)(m:zx)(w:World)(hb:jP B b t ow w)(hl:b.log.length+b.ws.length<=536870912):Calls prog 355 #[.pointer (some ⟨B,0,none⟩),vO m] w (zjM B t ow w (xF b m)):=by
 obtain⟨⟨i,c⟩,d⟩:=m;have bl:=hb;obtain⟨ah,lv,mb,hB,hR,hM,o1,o2,o3⟩:=hb;obtain⟨R,az⟩:∃R,xF b ((i,c),d)=R:=⟨_,rfl⟩;rw [az]
 cases hr:zz ((i,c),d)
 ·have hp:R=(b,[],100):=by rw [← az];unfold xF;rw [if_pos hr]
  clear az;unfold vO;refine zl func355 rfl ?_;simp only [ntmps355,R8,Nat.reduceAdd,Nat.reduceSub]
  go_wp2_with (go_at_call 91;refine(vS _ _ _ _).mono ?_;rintro e w1 ⟨rfl,an⟩)
  have aq:Below w.heap.size w w1:=pbx;rw [hp];exact jp (v:=.tuple #[.slice none 0 0,.int .i64 100]) (by simp [results,Tryz.results355,go_sem]) ⟨_,ow,rfl,zp.of_below t ow aq,(jP.loc B b t).below bl aq,jc _ _ _,by simp [Value.ownBlock]⟩
 by_cases hc:c=Jv b i
 ·have hp:R=({tk:=vR b.tk (zT b.ws.length b.ws ((i,c),d)).2,log:=b.log++(zT b.ws.length b.ws ((i,c),d)).2,ws:=(zT b.ws.length b.ws ((i,c),d)).1},(zT b.ws.length b.ws ((i,c),d)).2,0):=by rw [← az];unfold xF;rw [if_neg (by simp [hr]),if_neg (by simp;exact hc)]
  have t1:((c:Int) !=(Jv b i:Nat))=false:=bne_eq_false_iff_eq.2 (by rw [← hc]);clear az hc;replace hp:=hid hp;unfold vO;refine zl func355 rfl ?_;simp only [ntmps355,R8,Nat.reduceAdd,Nat.reduceSub]
  go_wp2_with (first
   |(go_at_call 91;refine(vS _ _ _ _).mono ?_;rintro e w1 ⟨rfl,an⟩
     have aq:Below w.heap.size w w1:=pbx;have a5:=(jP.loc B b t).below bl aq;have kb:Blk w1 w.heap.size #[.pointer (some ⟨B,0,none⟩)] 279:=Blk.call (bkx) an;have k0:Blk w1 (w.heap.size+1) #[.int .i64 i,.int .u32 c,.string (bs d)] 78:=Blk.call (bkx) an;have c0:=k0.cell;have b5:=kb.cell;have bv:=kb.lt
     have l0:=k0.lt)
   |(go_at_call 361;refine(zeW B b t ow _ _ a5).mono ?_;rintro e w2 ⟨rfl,rfl⟩)
   |(go_at_call 363;refine(zlj B ((i,c),d) _).mono ?_;rintro e w3 ⟨rfl,rfl⟩))
  obtain⟨NB,ao⟩:∃NB,NB=w2.heap.size:=⟨_,rfl⟩;obtain⟨W0,am⟩:∃W0,W0=((w2.alloc (.cells #[.slice none 0 0] 42)).alloc (.cells #[.pointer (some ⟨B,0,none⟩)] 279)).alloc (.cells #[.int .i64 i,.int .u32 c,.string (bs d)] 78):=⟨_,rfl⟩;have b6:Blk W0 (NB+1) #[.pointer (some ⟨B,0,none⟩)] 279:=by rw [am,ao];exact(Blk.new (by simp)).alloc _
  have cn:Blk W0 (NB+1+1) #[.int .i64 i,.int .u32 c,.string (bs d)] 78:=by rw [am,ao];exact Blk.new (by simp)
  have co:Blk W0 NB #[.slice none 0 0] 42:=by rw [am,ao];exact((Blk.new rfl).alloc _).alloc _
  have a2:Below w.heap.size w W0:=by rw [am];exact pbx
  have c5:W0.heap.size=NB+3:=by rw [am,ao];simp
  rw [← ao,← am];have lB:B<W0.heap.size:=Nat.lt_of_lt_of_le hB.lt a2.size;have lm:mb<W0.heap.size:=Nat.lt_of_lt_of_le hM.lt a2.size;have lw:w.heap.size<NB:=by rw [ao];exact kb.lt
  have cc:B<w.heap.size:=hB.lt;have b7:mb<w.heap.size:=hM.lt;have bi:B≠mb:=hB.ne_map hM;have qb:Blk W0 w.heap.size #[.pointer (some ⟨B,0,none⟩)] 279:=by rw [am];exact((kb.alloc _).alloc _).alloc _
  have bj:=hB.kept (a2.block B hB.lt);have bg:=hM.kept (a2.block mb hM.lt);have bf:=hR.kept (λg hg=>a2.block g (hR.lt hg));clear am ao c0 b5 bv l0 kb k0 a5 an
  refine Xc (gf:=366) (lb:=#[.pointer (some ⟨NB+1+1,0,none⟩),.pointer (some ⟨NB+1,0,none⟩)]) rfl (enters_of func366 (by kernel_rfl) rfl)
   (zjJ (NB+1+1) (NB+1) B mb ((i,c),d) b.ws ah.keys hr) (λ_=>rfl)
   (λs X W=>∃acc nv,zb4 B mb NB lv b.tk (zT b.ws.length b.ws ((i,c),d)).2 (zT b.ws.length b.ws ((i,c),d)).1 W0 acc nv s X W)
   (λ_ _ _=>False)
   (λs X X' W W' h hm hx=>by obtain⟨acc,nv,h⟩:=h;exact⟨acc,nv,h.stab lB lm (by omega) hm hx⟩)
   (λ_ _ _ _ _ _ h _ _=>h)
   (λs X W h=>by
    obtain⟨acc,nv, -, -, -, -,ab,ca,cp, -⟩:=h
    exact⟨cn.mod ab.2 (by omega),((b6.mod ab.2 (by omega)).cell 0).trans rfl,(ca.cell 17).trans (xP _ _ _ (by rw [vT];exact ah.sixteen)),cp⟩)
   ⟨[],.slice none 0 0,rfl,rfl,ah.keys,λx hx=>by cases hx;exact hr,Fr.refl _ _,bj,bg,co,jc _ _ _,by simp [Value.ownBlock]⟩
   (λs x a' X W=>∃acc nv cb,a'={tmps:=#[.pointer (some ⟨B,0,none⟩),.agg #[.int .i64 i,.int .u32 c,.string (bs d)],.pointer (some ⟨w.heap.size,0,none⟩),.pointer (some ⟨w.heap.size+1,0,none⟩),.slice none 0 0,.int .i64 0,.int .u32 (Jv b i:Nat),.pointer (some ⟨NB,0,none⟩),.pointer (some ⟨cb,0,none⟩),.pointer (some ⟨B,0,none⟩),.bool false,.agg #[.int .i64 i,.int .u32 c,.string (bs d)],.bool true,.bool false,.pointer (some ⟨B,0,none⟩),.pointer (some ⟨w.heap.size+1,0,none⟩),.pointer (some ⟨w.heap.size+1,0,none⟩),.int .i64 i,.int .u32 (Jv b i:Nat),.pointer (some ⟨w.heap.size+1,0,none⟩),.pointer (some ⟨w.heap.size+1,1,none⟩),.int .u32 c,.int .u32 (Jv b i:Nat),.bool false,undef,undef,undef,.pointer (some ⟨B,0,none⟩),.agg #[.int .i64 i,.int .u32 c,.string (bs d)],.func (.func 366) #[] #[.pointer (some ⟨NB+1+1,0,none⟩),.pointer (some ⟨NB+1,0,none⟩)],.agg #[.int .i64 x.1.1,.int .u32 x.1.2,.string (bs x.2)],undef,undef,undef,undef,undef,undef,undef,undef,undef,undef,undef,undef,undef,undef,undef,undef,undef,undef,undef,undef,undef,undef,undef,undef,undef,undef,undef,undef,undef,undef],defers:=[] } /\s.2=some x/\W0.heap.size<=cb/\¬X cb/\Blk W cb #[.int .i64 x.1.1,.int .u32 x.1.2,.string (bs x.2)] 78/\(∀g,nv.ownBlock=some g->g≠cb)/\
    zb4 B mb NB lv b.tk (zT b.ws.length b.ws ((i,c),d)).2 (zT b.ws.length b.ws ((i,c),d)).1 W0 acc nv s X W)
   ?ax ?assign ?body ?done ?stop
  case ax=>
   rintro s x a' u X X' W W'⟨acc,nv,cb,cd,h1,h2,be,a8,a1,h⟩ hm hX;exact⟨acc,nv,cb,cd,h1,h2,λh=>(hX cb h).elim be (λh'=>by have:=a8.lt;omega),a8.mod hm be,a1,h.stab lB lm (by omega) hm hX⟩
  case assign=>
   rintro l' s x X W K⟨acc,nv,h⟩⟨h1,h2,h3⟩ hK;have ab:=h.2.2.2.2.1;have bd:=h.2.2.2.2.2.2.2.2.1;have cv:¬X W.heap.size:=ab.next;unfold vO
   gi_wp2
   exact hK _ _ ⟨acc,nv,W.heap.size,rfl,h1,ab.2.size,cv,Blk.new rfl,λg hg=>by have:=bd.lt hg;omega,h.stab lB lm (by omega) (Mod.alloc _ _ _) (λk hk=>.inl hk)⟩ (jm.of_mod (Mod.alloc (λ_=>False) _ _) (λ_ _ _ h=>h))
  case body=>
   rintro l' s x a' X W⟨acc,nv,cb,rfl,h1,h2,be,a8,a1,h⟩ cw _;obtain⟨g1,g2,g3,g4,ab,kB,kM,kN,kR,kn⟩:=h;have cm:=g4 x h1;obtain⟨⟨xi,xc⟩,xd⟩:=x
   obtain⟨xk,rfl,ci⟩:∃k:Nat,xi=k/\k<16:=by
    simp [zz] at cm
    exact⟨xi.toNat,by omega,by omega⟩
   have c7:(xk:Int)<16:=by omega
   have e0:=a8.cell;have eb:=(qb.mod ab.2 (by omega)).cell;have eB:=(kB.cell 17).trans (xP _ _ _ (by rw [vT];exact ah.sixteen));have b2:=kM.kept (w':=W.drew) rfl;obtain⟨o,ay,a6⟩:=b2.delete zaN Tryz.underlying138 #[138,76] 0 rfl ((xk:Int),xc);unfold idV at ay;simp only at e0
   gi_wp2
   refine xa 6 (by rfl) (λ⟨_,_,h⟩=>h) (by kernel_rfl) (by kernel_rfl) ?_;simp only [List.take_succ_cons,List.take_zero,List.drop_succ_cons,List.drop_zero]
   repeat still_step
   try refine wpStill_nil ?_
   refine xG rfl _ _ _ _ rfl rfl rfl ay ?_;unfold wpList;obtain⟨W1,ai⟩:∃W1,W1=W.drew.putObj mb o:=⟨_,rfl⟩;have ce:cb≠mb:=by have:=ab.2.size;omega
   have cq:cb≠B:=by have:=ab.2.size;omega
   have db:cb≠NB:=by have:=ab.2.size;omega
   have a4:NB≠B:=by omega
   have cf:w.heap.size≠B:=by omega
   have c3:w.heap.size≠NB:=by omega
   have a9:Blk W1 B (jL (vR b.tk acc) lv mb) 358:=by rw [ai];exact(kB.drew).putObj bi o
   have bn:Blk W1 NB #[nv] 42:=by rw [ai];exact(kN.drew).putObj (by omega) o
   have bk:Blk W1 cb #[.int .i64 xk,.int .u32 xc,.string (bs xd)] 78:=by rw [ai];exact(a8.drew).putObj ce o
   have b1:Blk W1 w.heap.size #[.pointer (some ⟨B,0,none⟩)] 279:=by rw [ai];exact((qb.mod ab.2 (by omega)).drew).putObj (by omega) o
   have bq:zZ W1 mb idV ((del ((xk:Int),xc) s.1).map λp=>(p.1,vO p.2)):=by rw [ai,← zaL];exact a6
   have br:Row W1 78 3 nv acc.length (acc.flatMap zh):=by rw [ai];exact(show Row W.drew _ _ _ _ _ from kR).kept (λg hg=>U1 (by have:=(kn g hg).1;omega))
   have bo:Mod (λk=>k=B∨k=mb∨k=NB) W W1:=by rw [ai];exact((Mod.refl _ W).thenDrew).thenPut (.inr (.inl rfl)) o
   rw [← ai];clear e0 eb eB ay a6 b2 ai;have e0:=bk.cell;have eb:=b1.cell;have f0:=a9.frozen xk;have cz:=(a9.cell xk).trans (ZO _ _ _ xk (by rw [vT];exact ah.sixteen) ci)
   gi_wp2
   refine xa 10 (by rfl) (λ⟨_,_,h⟩=>h) (by kernel_rfl) (by kernel_rfl) ?_;simp only [List.take_succ_cons,List.take_zero,List.drop_succ_cons,List.drop_zero]
   repeat still_step
   try refine wpStill_nil ?_
   go_wp2;obtain⟨W2,al⟩:∃W2,W2=(W1.setCell ⟨B,xk,none⟩ (.int .u32 xc)).drew:=⟨_,rfl⟩
   have b0:Blk W2 B (jL (vR b.tk (acc++ [(((xk:Int),xc),xd)])) lv mb) 358:=by
    rw [al,zfN,Int.toNat_natCast,← zaS _ _ _ _ _ (by rw [vT];have:=ah.sixteen;omega)];exact(a9.set _).drew
   have bc:Blk W2 NB #[nv] 42:=by rw [al];exact(bn.other a4 _).drew
   have b3:Blk W2 cb #[.int .i64 xk,.int .u32 xc,.string (bs xd)] 78:=by rw [al];exact(bk.other cq _).drew
   have a6:zZ W2 mb idV ((del ((xk:Int),xc) s.1).map λp=>(p.1,vO p.2)):=by rw [al];exact bq.kept (N4 _ _ _ _ (show mb≠B from Ne.symm bi))
   have cu:Row W2 78 3 nv acc.length (acc.flatMap zh):=by rw [al];exact br.kept (λg hg=>N4 _ _ _ _ (show g≠B by have:=(kn g hg).1;omega))
   have bt:Mod (λk=>k=B∨k=mb∨k=NB) W W2:=by rw [al];exact(bo.thenSet (p:=⟨B,xk,none⟩) (.inl rfl) _).thenDrew
   rw [← al];clear e0 eb f0 cz a9 bn bk b1 bq br bo al;have e0:=b3.cell;have en:=bc.cell;have fn:=bc.frozen;have lN:=bc.lt;have lc:=b3.lt
   have ap:acc.length+1<=1073741824:=by
    have h5:=congrArg List.length g1;have h6:=JO b.ws.length b.ws ((i,c),d);simp only [N1] at h5;omega
   have aw:∀g,nv.ownBlock=some g->g≠NB:=λg hg=>by have:=(kn g hg).1;omega
   replace ap:=hid ap;replace aw:=hid aw
   gi_wp2_with (gi_at_builtin
                obtain⟨c2,W3,af,ae,ag,ac⟩:=zM zdI (cu.below ((N2 _ _).alloc (N0 _) (.cells #[.int .i64 (xk:Int),.int .u32 (xc:Int),.string (bs xd)] 78))) (jD (n:=1) (size:=3) (Blk.new (w:=W2) (cs:=#[.int .i64 (xk:Int),.int .u32 (xc:Int),.string (bs xd)]) (t:=78) rfl) rfl (N0 1)) (jA [(((xk:Int),xc),xd)]) ap.out 42;refine jO rfl _ _ _ rfl rfl rfl af ?_;have ba:Blk W3 NB #[nv] 42:=(bc.alloc _).kept (ag.block NB (by simp;omega) (λe=>aw.out NB e.symm rfl));have dc:=ba.cell;have c6:=ba.frozen;have c8:=ba.lt;obtain⟨sa,sm,sc,rfl⟩:=ae.shape
                clear af)
   have cg:=g3.del ((xk:Int),xc);have ak:=zjL (ws:=s.1) (x:=(((xk:Int),xc),xd)) g3;have hs:s=(s.1,some (((xk:Int),xc),xd)):=by rw [← h1]
   have bz:Mod (λk=>k=B∨k=mb∨k=NB∨nv.ownBlock=some k) W (W3.setCell ⟨NB,0,none⟩ (.slice sa sm sc)):=
    (((bt.mono (λk _ h=>by rcases h with h|h|h;exact .inl h;exact .inr (.inl h);exact .inr (.inr (.inl h)))).thenAlloc _).trans (Mod.grown ag (λk h=>.inr (.inr (.inr h)))) (λ_ _ e=>e) (λ_ _ e=>e)).thenSet (p:=⟨NB,0,none⟩) (.inr (.inr (.inl rfl))) _
   have bu:∀k,k<W2.heap.size->nv.ownBlock≠some k->(W3.setCell ⟨NB,0,none⟩ (.slice sa sm sc)).heap[k]?=W2.heap[k]?∨k=NB:=λk hk a1=>by
    by_cases hkN:k=NB
    ·exact .inr hkN
    exact .inl ((N4 _ _ _ _ hkN).trans ((ag.block k (by simp;omega) (λe=>a1 e.symm)).trans (U4 _ _ _ hk)))
   refine⟨⟨acc++ [(((xk:Int),xc),xd)],.slice sa sm sc,?_,?_,cg,λy hy=>(zfM (x:=(((xk:Int),xc),xd)) g3 hy).2,ab.mod bz (λk hk h=>?_),?_,?_,ba.set _,?_,?_⟩,jm.of_mod bz (λk hk hX h=>?_)⟩
   ·rw [← g1,hs,ak.1];simp;rfl
   ·rw [← g2,hs,ak.2];rfl
   ·rcases h with h|h|h|h
    ·exact .inl h
    ·exact .inr (.inl h)
    ·exact .inr (.inr h)
    have:=(kn k h).1;omega
   ·exact b0.kept ((bu B b0.lt (λe=>by have:=(kn B e).1;omega)).resolve_right (by omega))
   ·exact a6.kept ((bu mb a6.lt (λe=>by have:=(kn mb e).1;omega)).resolve_right (by omega))
   ·simp only [N1,U2,U5]
    refine Row.kept (w:=W3) ae (λg hg=>N4 _ _ _ _ (show g≠NB from λe=>?_));subst e;rw [hg] at ac
    rcases ac with h|h
    ·have:=(kn _ h.symm).1;omega
    simp at h;omega
   ·intro g hg
    rw [hg] at ac
    rcases ac with h|h
    ·exact kn g h.symm
    have:=bt.size
    have:=ab.2.size;simp at h
    exact⟨by omega,λhX=>by have:=(ab.1 g hX).2;omega⟩
   have:=ab.1 k hX
   rcases h with h|h|h|h
   ·omega
   ·omega
   ·omega
   exact(kn k h).2 hX
  case done=>
   rintro D s X W hD bp a7⟨acc,nv,g1,g2,g3,g4,ab,kB,kM,kN,kR,kn⟩ ar;obtain⟨ck,os⟩:=s;have cr:os=none:=a7;subst cr;have ad:acc=(zT b.ws.length b.ws ((i,c),d)).2:=by rw [← g1];simp [QZ]
   have au:ck=(zT b.ws.length b.ws ((i,c),d)).1:=g2;have eb:=(qb.mod ab.2 (by omega)).cell;have eB:=(kB.cell 16).trans (Yg _ _ _ (by rw [vT];exact ah.sixteen));have en:=kN.cell;have fB:=kB.frozen 16;clear g1 g2 a7 g3 g4;replace ad:=hid ad;replace au:=hid au;go_wp2
   have bd:Row W.drew 78 3 lv b.log.length (b.log.flatMap zh):=Row.kept (w:=W) (bf.mod ab.2 (λg hg h=>by
    have:=hR.lt hg
    rcases h with h|h|h
    ·exact hR.ne_blk hB (by decide) hg h
    ·exact hR.ne_map hM hg h
    omega)) (λ_ _=>rfl)
   obtain⟨de,W5,af,ae,ag,ac⟩:=zM zdI bd (Src.kept (w:=W) kR.src (λ_ _ _ _=>rfl)) (jA acc) (by rw [ad.out];have:=JO b.ws.length b.ws ((i,c),d);omega) 42;have aa:∀k,lv.ownBlock=some k->k<w.heap.size/\k≠B/\k≠mb:=λk hk=>⟨hR.lt hk,hR.ne_blk hB (by decide) hk,hR.ne_map hM hk⟩
   have aj:∀k,k<W.heap.size->lv.ownBlock≠some k->W5.heap[k]?=W.heap[k]?:=λk hk a1=>ag.block k hk (λe=>a1 e.symm)
   have a0:=kB.kept (aj B kB.lt (λe=>(aa B e).2.1 rfl));have cl:=kN.kept (aj NB kN.lt (λe=>by have:=(aa NB e).1;omega));have a3:=(aj D (N5.1 ar).1 (λe=>by have:=(aa D e).1;omega)).trans ar;have c1:=kM.kept (aj mb kM.lt (λe=>(aa mb e).2.2 rfl));have c9:=kR.kept (λg hg=>aj g (kR.lt hg) (λe=>by have:=(aa g e).1;have:=(kn g hg).1;omega));obtain⟨sa,sm,sc,rfl⟩:=ae.shape;have cy:=(a0.cell 16).trans (Yg _ _ _ (by rw [vT];exact ah.sixteen));have cx:=a0.frozen 16;have dd:=a0.lt;have c4:=cl.cell;have a4:NB≠B:=by omega
   have b8:=(((qb.mod ab.2 (by omega)).kept (aj w.heap.size (qb.mod ab.2 (by omega)).lt (λe=>by have:=(aa w.heap.size e).1;omega))).cell);replace aa:=hid aa;replace aj:=hid aj;clear fB
   apply JD (Wp:=λw'=>w'=W5.setCell ⟨B,16,none⟩ (.slice sa sm sc))
   case h=>
    go_region_law (refine Qw _ _ _ rfl rfl rfl af ?_)
    all_goals exact JC rfl
   case h2=>
   rintro w6 rfl;clear af eB en eb b8;go_wp2
   replace a0:Blk (W5.setCell ⟨B,16,none⟩ (.slice sa sm sc)) B (jL (vR b.tk acc) (.slice sa sm sc) mb) 358:=by
    rw [← VV (lv:=lv) _ _ _ (by rw [vT];exact ah.sixteen)];exact a0.set _
   have bw:B≠D:=by omega
   have da:=(N5.1 ar).1;have ct:∀k,lv.ownBlock=some k->k≠D:=λk hk=>by have:=(aa.out k hk).1;omega
   have b4:∀k,k<W.heap.size->lv.ownBlock≠some k->k≠B->k≠D->((W5.setCell ⟨B,16,none⟩ (.slice sa sm sc)).putObj D (.deferred none)).heap[k]?=W.heap[k]?:=λk hk h1 h2 h3=>
    (U1 h3).trans ((N4 _ _ _ _ h2).trans (aj.out k hk h1))
   have bh:Mod (λk=>k=B∨k=mb∨k=NB∨lv.ownBlock=some k∨k=D) W0 ((W5.setCell ⟨B,16,none⟩ (.slice sa sm sc)).putObj D (.deferred none)):=
    (((ab.2.mono (λk _ h=>by rcases h with h|h|h;exact .inl h;exact .inr (.inl h);exact .inr (.inr (.inl h)))).trans (Mod.grown (W:=W) (W':=W5) (row:=lv.ownBlock) ⟨ag.os,ag.tape,ag.output,ag.size,ag.block⟩ (λk h=>.inr (.inr (.inr (.inl h))))) (λ_ _ e=>e) (λ_ _ e=>e)).thenSet (p:=⟨B,16,none⟩) (.inl rfl) _).thenPut (.inr (.inr (.inr (.inr rfl)))) _
   refine jl (D:=D) (v:=.tuple #[nv,.int .i64 0]) ((N4 _ _ _ _ (Ne.symm bw)).trans a3) (by simp [results,Tryz.results355,go_sem]) ?_
   have bb:∀g,(Value.slice sa sm sc).ownBlock=some g->(lv.ownBlock=some g∨g=W.heap.size):=λg hg=>by
    rw [hg] at ac
    rcases ac with h|h
    ·exact .inl h.symm
    right;simpa using h
   have ch:Mod (λk=>Sub t (ow k)) w ((W5.setCell ⟨B,16,none⟩ (.slice sa sm sc)).putObj D (.deferred none)):=
    (Mod.of_below _ a2).trans bh (λ_ _ e=>e) (λk hk h=>by
     rcases h with h|h|h|h|h
     ·rw [h,o1];exact Sub.rfl' t
     ·rw [h,o2];exact Sub.rfl' t
     ·omega
     ·rw [o3 k h];exact Sub.rfl' t
     omega)
   rw [hp.out];refine⟨nv,ow.ext w.heap.size (λk=>(Value.slice sa sm sc).ownBlock=some k) t,rfl,⟨ch,λk hk=>Own.ext_old hk⟩,⟨ah.row hr _,.slice sa sm sc,mb,?_,?_,?_,?_,?_,?_⟩,?_,?_⟩
   ·rw [← ad.out];exact a0.putObj bw _
   ·simp only [N1,U5]
    rw [← ad.out];refine Row.kept (w:=W5) ae (λg hg=>(U1 (λe=>?_)).trans (N4 _ _ _ _ (show g≠B from λe=>?_)))
    ·rcases bb g hg with h|h
     ·exact ct g h e
     omega
    rcases bb g hg with h|h
    ·exact(aa.out g h).2.1 e
    omega
   ·rw [← au.out]
    exact kM.kept (b4 mb kM.lt (λe=>(aa.out mb e).2.2 rfl) (Ne.symm bi) (by omega))
   ·rw [Own.ext_old cc,o1]
   ·rw [Own.ext_old b7,o2]
   ·intro g hg
    rcases bb g hg with h|h
    ·rw [Own.ext_old (aa.out g h).1,o3 g h]
    rw [Own.ext_new (by omega) hg]
   ·rw [← ad.out]
    refine kR.kept (λg hg=>b4 g (kR.lt hg) (λe=>?_) (λe=>?_) (λe=>?_))
    ·have:=(kn g hg).1;have:=(aa.out g e).1;omega
    ·have:=(kn g hg).1;omega
    subst e;exact(kn _ hg).2 bp
   intro g hg
   have h1:=(kn g hg).1;refine⟨by omega,Own.ext_none (by omega) (λh=>?_)⟩
   rcases bb g h with h|h
   ·have:=(aa.out g h).1;omega
   have:=kR.lt hg;omega
  case stop=>rintro D c' X W hD bp h;exact h.elim
 have hp:R=((if zhw b (i,c)then b else {b with ws:=put (i,c) ((i,c),d) b.ws}),[],0):=by rw [← az];unfold xF;rw [if_neg (by simp [hr]),if_pos hc]
 have t1:((c:Int) !=(Jv b i:Nat))=true:=bne_iff_ne.2 (λe=>hc (Int.ofNat.inj e));clear az;replace hp:=hid hp;unfold vO;refine zl func355 rfl ?_;simp only [ntmps355,R8,Nat.reduceAdd,Nat.reduceSub]
 go_wp2_with (first
  |(go_at_call 91;refine(vS _ _ _ _).mono ?_;rintro e w1 ⟨rfl,an⟩
    have aq:Below w.heap.size w w1:=pbx;have a5:=(jP.loc B b t).below bl aq;have kb:Blk w1 w.heap.size #[.pointer (some ⟨B,0,none⟩)] 279:=Blk.call (bkx) an;have k0:Blk w1 (w.heap.size+1) #[.int .i64 i,.int .u32 c,.string (bs d)] 78:=Blk.call (bkx) an;have c0:=k0.cell;have b5:=kb.cell;have bv:=kb.lt
    have l0:=k0.lt)
  |(go_at_call 361;refine(zeW B b t ow _ _ a5).mono ?_;rintro e w2 ⟨rfl,rfl⟩)
  |(go_at_call 362;refine(zjG B b t ow ((i,c),d) hr _ a5).mono ?_;rintro e w3 ⟨rfl,b9,cj,bm⟩;replace bm:Hid _:=bm))
 refine jp (v:=.tuple #[.slice none 0 0,.int .i64 0]) (by simp [results,Tryz.results355,go_sem]) ?_;rw [hp.out];exact⟨_,b9,rfl,(zp.of_below t ow aq).trans cj,bm.out,jc _ _ _,by simp [Value.ownBlock]⟩
end
open Go Go.RowKit Go.Shelf Go.Extern.Stop Go.Stop Go.Extern Go.Lib
attribute [local go_sem] Oper.semAt_some zB zo
def vv(bb:Nat)(ev:Value)(f:yB):Array Value:=#[.pointer (some ⟨bb,0,none⟩),ev,.int .i64 f.count,.bool f.sw]
def zF(B:Nat)(f:yB)(t:List Nat)(ow:Own)(W:World):Prop:=
 f.eras≠ [] /\∃bb ev,Blk W B (vv bb ev f) 284/\jP bb f.book (t++ [0]) ow W/\Row W 197 3 ev f.eras.length (f.eras.flatMap zX)/\ow B=t/\∀g,ev.ownBlock=some g->ow g=t
theorem zF.loc(B:Nat)(f:yB)(t:List Nat):yC t (zF B f t):=by
 rintro ow ow' W W'⟨ab,bb,ev,hB,aa,hR,o1,o2⟩ hs hk;have kB:=hk B hB.lt (by rw [o1];exact Sub.rfl' t);refine⟨ab,bb,ev,hB.kept kB.2,?_,hR.kept (λg hg=>(hk g (hR.lt hg) (by rw [o2 g hg];exact Sub.rfl' t)).2),kB.1.trans o1,λg hg=>?_⟩
 ·exact(jP.loc bb f.book (t++ [0])) ow ow' W W' aa hs (λk hk1 hk2=>hk k hk1 ((Sub.child t 0).trans hk2))
 exact((hk g (hR.lt hg) (by rw [o2 g hg];exact Sub.rfl' t)).1).trans (o2 g hg)
theorem zm9:Yf prog 217 197 3 24 (.agg #[.int .u32 0,.int .i64 0,.int .i64 0]):=⟨Tryz.underlying217,by kernel_rfl,rfl,by decide,by decide⟩
theorem VA(l:List ZJ):∀u∈l.flatMap zX,u.oneCell'=true:=by
 intro u hu;obtain⟨m,_,hm⟩:=List.mem_flatMap.1 hu;simp [zX] at hm
 rcases hm with rfl|rfl|rfl<;>rfl
theorem Qx(a:Addr)(w:World):(binOp .eql 111 (.pointer (some a)) (.pointer none)).run prog w=.ok (.bool false) w:=by kernel_rfl
theorem zhD(a b c:Int)(w:World):(Instr.field 197 (.agg #[.int .u32 a,.int .i64 b,.int .i64 c]) 0).run prog w=.ok (.int .u32 a) w:=by kernel_rfl
theorem zhE(a b c:Int)(w:World):(Instr.field 197 (.agg #[.int .u32 a,.int .i64 b,.int .i64 c]) 1).run prog w=.ok (.int .i64 b) w:=by kernel_rfl
theorem ze0(B:Nat)(f:yB)(t:List Nat)(ow:Own)(w:World)(h:zF B f t ow w):Calls prog 225 #[.pointer (some ⟨B,0,none⟩)] w λe w'=>e=.returned (.bool false)/\w'=w:=by
 obtain⟨aa,bb,ev,hB, -,hR, -⟩:=h;have h0:=Qx ⟨B,0,none⟩ w;obtain⟨a,c,rfl⟩:=hR.src.shape;have e0:=hB.cell;unfold vv at e0;have t0:((f.eras.length:Int)==0)=false:=by simpa using aa
 clear hB hR aa
 go_enter func225,ntmps225
 go_wp2;go_ret
 exact⟨rfl,rfl⟩
theorem zll {l:List ZJ}{m:Nat}(h:l.length=m+1):l[m]?=some (vo l):=by
 unfold vo;rw [List.getLast?_eq_getElem?,h,Nat.add_sub_cancel,N3 (by omega)];rfl
theorem Xo(B:Nat)(f:yB)(t:List Nat)(ow:Own)(w:World)(h:zF B f t ow w)(hl:f.eras.length<=1073741824):Calls prog 308 #[.pointer (some ⟨B,0,none⟩)] w λe w'=>e=.returned (Yh (vo f.eras))/\Below w.heap.size w w':=by
 obtain⟨ab,bb,ev,hB, -,hR, -⟩:=h;obtain⟨m,hm⟩:∃m,f.eras.length=m+1:=⟨f.eras.length - 1,by have:=List.length_pos_iff.2 ab;omega⟩
 rcases hR.form with⟨-,h, -⟩|⟨g,cap,rfl,hc,hcm⟩
 ·omega
 have hx:=zll hm
 have aa:∀j,j<3->w.cell? ⟨g,m*3+j,none⟩=(zX (vo f.eras))[j]?:=λj hj=>by
  have h1:=Jg f.eras m _ hx j hj;rw [← h1,hR.cellAt _ (by omega)]
 obtain⟨⟨ep,ve,st⟩,hn⟩:∃n,vo f.eras=n:=⟨_,rfl⟩;rw [hn] at aa⊢;have c0:w.cell? ⟨g,m*3,none⟩=some (.int .u32 ep):=aa 0 (by omega);have c1:w.cell? ⟨g,m*3+1,none⟩=some (.int .i64 ve):=aa 1 (by omega);have c2:w.cell? ⟨g,m*3+2,none⟩=some (.int .i64 st):=aa 2 (by omega);have hg:=hR.lt (g:=g) rfl;have ae:=hB.lt;rw [hm] at hB hc;clear aa hx hn hR ab;unfold Yh;simp only;have af:(m:Int)+1<=1073741824:=by omega
 have ag:IntKind.i64.wrap (m:Int)=m:=IntWalk.i64_in _ (by omega);have ac:(0:Int)<=m:=by omega
 have ad:(m:Int)<(m:Int)+1:=by omega
 clear hm hl
 go_enter func308,ntmps308
 go_wp2;unfold vv at hB
 refine zd [O 0,O 1,O 2,O 3,O 4,O 5,O 6,O 7,O 8,O 9,O 10,O 11,E 12] (some 12) (λw'=>Blk w' B #[.pointer (some ⟨bb,0,none⟩),.slice (some ⟨g,0,none⟩) (m+1) cap,.int .i64 f.count,.bool f.sw] 284/\w'.cell? ⟨g,m*3,none⟩=some (.int .u32 ep)/\w'.cell? ⟨g,m*3+1,none⟩=some (.int .i64 ve)/\w'.cell? ⟨g,m*3+2,none⟩=some (.int .i64 st)/\True) (by kernel_rfl) (by kernel_rfl)
  ⟨(hB.alloc _).drew,jo c0 _,jo c1 _,jo c2 _,trivial⟩ ?_
 refine Wo ?_
 refine zc rfl (λK hK=>?_);go_wp2;refine hK.out _ _ (λh=>absurd rfl h) ?_;clear hK K;refine zg ?_;go_wp2;exact bodyPost_ret (v:=.agg #[.int .u32 ep,.int .i64 ve,.int .i64 st]) (by simp [results,Tryz.results308,go_sem]) rfl ⟨rfl,pbx⟩
theorem zhF(B:Nat)(f:yB)(t:List Nat)(ow:Own)(w:World)(h:zF B f t ow w):Calls prog 227 #[.pointer (some ⟨B,0,none⟩)] w λe w'=>
 ∃ev,e=.returned (.func (.func 322) #[] #[.pointer (some ⟨w.heap.size,0,none⟩)])/\w'=w.alloc (.cells #[ev] 217)/\Row w 197 3 ev f.eras.length (f.eras.flatMap zX)/\∀g,ev.ownBlock=some g->ow g=t:=by
 obtain⟨aa,bb,ev,hB, -,hR, -,ho⟩:=h;obtain⟨a,n,c,rfl⟩:=hR.shape;have e0:=hB.cell;unfold vv at e0;clear hB aa;replace ho:=hid ho
 go_enter func227,ntmps227
 go_wp2_with (go_at_call 278;refine(zfI _ ⟨_,_,_,rfl⟩ _).mono ?_;rintro e w1 ⟨rfl,rfl⟩)
 go_ret
 exact⟨_,rfl,rfl,hR,ho.out⟩
def zjO(l:List ZJ)(pb:Nat)(W0:World)(k:Nat)(X:Nat->Prop)(W:World):Prop:=
 Fr (λk=>k=pb) W0 X W/\k<=l.length/\∃pv,Blk W pb #[pv] 217/\Row W 197 3 pv (l.take k).length ((l.take k).flatMap zX)/\(∀g,pv.ownBlock=some g->W0.heap.size<=g/\¬X g)
theorem zjO.stab {l:List ZJ}{pb:Nat}{W0:World}{k:Nat}{X X':Nat->Prop}{W W':World}(h1:pb<W0.heap.size)
 (h:zjO l pb W0 k X W) (hm:Mod X W W') (hx:∀k,X' k->X k∨(W.heap.size<=k/\k<W'.heap.size)):zjO l pb W0 k X' W':=by
 obtain⟨aa,hk,pv,kp,kw,hn⟩:=h;refine⟨aa.step hm hx,hk,pv,kp.kept (aa.block hm h1),kw.mod hm (λg hg=>(hn g hg).2),λg hg=>⟨(hn g hg).1,λhX=>?_⟩⟩
 rcases hx g hX with h|h
 ·exact(hn g hg).2 h
 have:=kw.lt hg;omega
theorem zfO(gf:Nat)(lb:Array Value)(l:List ZJ)(Rd:Nat->World->Prop)
 (hit:zaF Fence.wide 2 prog gf lb (λx:ZJ=> #[Yh x]) (λ(k:Nat) x=>l[k]?=some x) (λk _=>k+1) (λk=>k=l.length) Rd 0)
 (eg:∀args w,(callFunc gf args).run prog w=.ok (.enter gf args) w) (w:World) (hRd:∀W k,Below w.heap.size w W->Rd k W) (hl:l.length<=536870912):
 Calls prog 277 #[.slice none 0 0,.func (.func gf) #[] lb] w λe w'=>
  ∃v',e=.returned v'/\Row w' 197 3 v' l.length (l.flatMap zX)/\Below w.heap.size w w'/\(∀g,v'.ownBlock=some g->w.heap.size<=g):=by
 refine zl func277 rfl ?_;simp only [ntmps277,R8,Nat.reduceAdd,Nat.reduceSub];go_wp2;obtain⟨pb,aa⟩:∃pb,pb=w.heap.size:=⟨_,rfl⟩;obtain⟨W0,ai⟩:∃W0,W0=w.alloc (.cells #[.slice none 0 0] 217):=⟨_,rfl⟩;have az:W0.heap.size=pb+1:=by rw [ai,aa];simp
 have an:Below w.heap.size w W0:=by rw [ai];exact pbx
 have kp:Blk W0 pb #[.slice none 0 0] 217:=by rw [ai];exact Blk.new aa
 rw [← ai,← aa];replace hRd:=hid hRd;replace aa:=hid aa;clear ai
 refine yV (gf:=gf) (lb:=lb) rfl eg hit (λ_=>rfl)
  (λk X W=>zjO l pb W0 k X W) (λc X W=>False)
  (λk X X' W W' h hm hx=>h.stab (by omega) hm hx)
  (λc s X X' W W' h hm hx=>h)
  (λk X W h=>hRd.out W k (an.trans (h.1.below (by have:=aa.out;omega) (λk hk=>by have:=aa.out;omega))))
  (λk X W h=>⟨h.1.2.size,λk hk=>(h.1.1 k hk).2⟩)
  ⟨Fr.refl _ _,Nat.zero_le _,_,kp,jc _ _ _,by simp [Value.ownBlock]⟩
  5 197 (λx=> #[.int .u32 x.1,.int .i64 x.2.1,.int .i64 x.2.2]) ?assign ?body ?done ?stop
 case assign=>
  intro l' x W K hK;rw [jf] at hK⊢;unfold Yh at hK⊢
  gi_wp2
  exact hK
 case body=>
  rintro l' k x cb X X1 W1 W h1⟨ad,hk,pv,ag,aj,hn⟩ ap a5 a4 ax kx aw _;obtain⟨ep,ve,st⟩:=x;have e0:=kx.cell;simp only at e0;rw [jf];unfold Yh;have lc:=kx.lt;have lp:=ag.lt;have ar:=ag.cell;have ay:=(N6.1 ap).1;have ac:(l.take k).length+1<=1073741824:=by rw [N7];omega
  replace ac:=hid ac;replace hn:=hid hn
  gi_wp2_with (gi_at_builtin
               obtain⟨a3,W3,ae,af,am,ab⟩:=zM zm9 (aj.below ((N2 _ _).alloc (N0 _) (.cells #[.int .u32 (ep:Int),.int .i64 ve,.int .i64 st] 197))) (jD (n:=1) (size:=3) (cap:=1) (Blk.new (w:=W) (cs:=#[.int .u32 (ep:Int),.int .i64 ve,.int .i64 st]) (t:=197) rfl) rfl (N0 1)) (VA [(ep,ve,st)]) ac.out 217;refine jO rfl _ _ _ rfl rfl rfl ae ?_;have ak:Blk W3 pb #[pv] 217:=(ag.alloc _).kept (am.block pb (by simp;omega) (λe=>by have:=(hn.out pb e.symm).1;omega));have a0:=ak.cell;have a2:=ak.frozen;have a6:=ak.lt;obtain⟨sa,sm,sc,rfl⟩:=af.shape
               clear ae)
  have hm:Mod (λk=>k=pb∨pv.ownBlock=some k) W (W3.setCell ⟨pb,0,none⟩ (.slice sa sm sc)):=
   (((Mod.refl (λk=>k=pb∨pv.ownBlock=some k) W).thenAlloc _).trans (Mod.grown am (λk h=>.inr h)) (λ_ _ e=>e) (λ_ _ e=>e)).thenSet (p:=⟨pb,0,none⟩) (.inl rfl) _
  have au:l.take (k+1)=l.take k++ [(ep,ve,st)]:=by rw [List.take_add_one,ap];rfl
  refine⟨⟨ad.mod hm (λk hk h=>?_),by omega,_,ak.set _,?_,?_⟩,jm.of_mod hm (λk hk hX h=>?_)⟩
  ·rcases h with h|h
   ·exact h
   have:=(hn.out k h).1;omega
  ·rw [au]
   simp only [N1,U2,U5];refine Row.kept (w:=W3) af (λg hg=>N4 _ _ _ _ (show g≠pb from λe=>?_));rw [hg] at ab
   rcases ab with h|h
   ·have:=(hn.out _ h.symm).1;omega
   simp at h;omega
  ·intro g hg
   rw [hg] at ab
   rcases ab with h|h
   ·exact hn.out g h.symm
   simp at h
   have:=ad.2.size;exact⟨by omega,λhX=>by have:=(ad.1 g hX).2;omega⟩
  have:=ad.1 k hX
  rcases h with h|h
  ·omega
  exact(hn.out k h).2 hX
 case done=>
  rintro D k X W hD ao al⟨ad,hk,pv,ag,aj,hn⟩ ah;obtain rfl:k=l.length:=al;rw [List.take_length] at aj;have ar:=ag.cell;have a1:=(N5.1 ah).1;have aq:Below w.heap.size w W:=an.trans (ad.below (by have:=aa.out;omega) (λk h=>by have:=aa.out;omega));replace hn:=hid hn;go_wp2;refine QW (D:=D) (v:=pv) ah (by simp [results,Tryz.results277,go_sem]) ?_;refine⟨pv,rfl,aj.kept (λg hg=>U1 (λe=>(hn.out g hg).2 (by rw [e];exact ao))),zS aq (by have:=aa.out;omega) _,λg hg=>by have:=(hn.out g hg).1;have:=aa.out;omega⟩
 case stop=>rintro D c X W hD ao h;exact h.elim
theorem Qy(ev:Value)(l:List ZJ)(cb:Nat)(w:World)(hc:Blk w cb #[ev] 217)(hv:Src w ev 3 l.length (l.flatMap zX))(hl:l.length<=536870912):
 Calls prog 226 #[.func (.func 322) #[] #[.pointer (some ⟨cb,0,none⟩)]] w λe w'=>
  ∃v',e=.returned v'/\Row w' 197 3 v' l.length (l.flatMap zX)/\Below w.heap.size w w'/\(∀g,v'.ownBlock=some g->w.heap.size<=g):=by
 have hs:=zfO 322 #[.pointer (some ⟨cb,0,none⟩)] l (λ_ W=>Blk W cb #[ev] 217/\Src W ev 3 l.length (l.flatMap zX))
  (Xi cb ev l (by omega)) (enters_of func322 (by kernel_rfl) rfl) w (λW k hb=>⟨hc.call hb,hv.below hb⟩) hl
 replace hs:=hid hs;clear hc hv hl
 go_enter func226,ntmps226
 go_wp2_with (go_at_call 277;refine hs.out.mono ?_;rintro e w1 ⟨v',rfl,h1,h2,h3⟩;replace h3:Hid (∀_,_):=h3)
 go_ret
 exact⟨_,rfl,h1,h2,h3.out⟩
theorem ze1(B:Nat)(f:yB)(t:List Nat)(ow:Own)(w:World)(h:zF B f t ow w)(hl:f.eras.length<=536870912):Calls prog 170 #[.pointer (some ⟨B,0,none⟩)] w λe w'=>
 ∃v',e=.returned v'/\Row w' 197 3 v' f.eras.length (f.eras.flatMap zX)/\Below w.heap.size w w'/\(∀g,v'.ownBlock=some g->w.heap.size<=g):=by
 have hn:=ze0 B f t ow w h;have ha:=zhF B f t ow w h;replace hn:=hid hn;replace ha:=hid ha;clear h
 go_enter func170,ntmps170
 go_wp2_with (first
  |(go_at_call 225;refine hn.out.mono ?_;rintro e w1 ⟨rfl,rfl⟩)
  |(go_at_call 227;refine ha.out.mono ?_;rintro e w2 ⟨ev,rfl,rfl,h1,h2⟩;replace h2:Hid (∀_,_):=h2)
  |(go_at_call 226;refine(Qy ev f.eras _ _ (Blk.new rfl) (h1.src.below ((N2 _ _).alloc (N0 _) _)) hl).mono ?_;rintro e w3 ⟨v',rfl,h3,h4,h5⟩;replace h5:Hid (∀_,_):=h5))
 go_ret
 refine⟨_,rfl,h3,pbx,λg hg=>by have:=h5.out g hg;simp at this;omega⟩
def zhG(v:Int)(t:List Nat)(ow:Own)(w:World)(e:Ending)(w':World):Prop:=
 ∃B ow',e=.returned (.tuple #[.pointer (some ⟨B,0,none⟩),.int .i64 0])/\zp t ow w ow' w'/\Below w.heap.size w w'/\zF B (ZN v) t ow' w'
theorem jP.own {B:Nat}{b:vF}{t:List Nat}{ow ow':Own}{W:World}(h:jP B b t ow W)(hk:∀k,ow' k=ow k∨∃cs T,Blk W k cs T/\T≠358/\T≠78):jP B b t ow' W:=by
 obtain⟨aa,lv,mb,hB,hR,hM,o1,o2,o3⟩:=h;refine⟨aa,lv,mb,hB,hR,hM,?_,?_,λg hg=>?_⟩
 ·rcases hk B with h|⟨cs,T,h,h1, -⟩
  ·rw [h,o1]
  have:=hB.symm.trans h;simp at this;exact absurd this.2.symm h1
 ·rcases hk mb with h|⟨cs,T,h,h1, -⟩
  ·rw [h,o2]
  exact absurd rfl (h.ne_map hM)
 rcases hk g with h|⟨cs,T,h, -,h1⟩
 ·rw [h,o3 g hg]
 exact absurd rfl (hR.ne_blk h (Ne.symm h1) hg)
theorem zhH {v:Int}{t:List Nat}{ow ow2:Own}{w W:World}{B rb bb:Nat}(hb:Below w.heap.size w W)(kB:Blk W B #[.pointer (some ⟨bb,0,none⟩),.slice (some ⟨rb,0,none⟩) 1 1,.int .i64 0,.bool false] 284)
 (kr:Blk W rb #[.int .u32 1,.int .i64 v,.int .i64 0] 197) (hk:jP bb qf (t++ [0]) ow2 W) (h1:w.heap.size<=B) (h2:w.heap.size<=rb) (ho:∀k,k<w.heap.size->ow2 k=ow k):
 zhG v t ow w (.returned (.tuple #[.pointer (some ⟨B,0,none⟩),.int .i64 0])) W:=by
 have aa:B≠rb:=λe=>by subst e;have:=kB.symm.trans kr;simp at this
 refine⟨B,λk=>if k=B∨k=rb then t else ow2 k,rfl,⟨Mod.of_below _ hb,λk hk=>?_⟩,hb,by simp [ZN],bb,.slice (some ⟨rb,0,none⟩) 1 1,kB,?_,?_,by simp,λg hg=>?_⟩
 ·show(if k=B∨k=rb then t else ow2 k)=ow k
  rw [if_neg (by omega),ho k hk]
 ·refine hk.own (λk=>?_)
  by_cases h:k=B∨k=rb
  ·right
   rcases h with rfl|rfl
   ·exact⟨_,_,kB,by decide,by decide⟩
   exact⟨_,_,kr,by decide,by decide⟩
  left;simp [h]
 ·exact⟨rfl,.inr ⟨rb,1,_,rfl,Nat.zero_le _,kr,N0 _,by decide,rfl,rfl⟩⟩
 simp [Value.ownBlock] at hg
 simp [hg]
theorem zjP(v:Int)(hv:known v=true)(t:List Nat)(ow:Own)(w:World):Calls prog 130 #[.int .i64 v] w (zhG v t ow w):=by
 go_enter func130,ntmps130
 go_wp2_with (go_at_call 163;refine(vp _ _).mono ?_;rintro e w1 ⟨rfl,ae⟩;rw [hv])
 go_region_with (go_at_call 172;refine(zle (t++ [0]) (ow.ext w.heap.size (λ_=>False) []) _).mono ?_;rintro e w2 ⟨bb,ag,rfl,ad,aa,ab⟩;have k4:Blk w2 w1.heap.size #[.int .u32 1,.int .i64 v,.int .i64 0] 197:=Blk.call (bkx) aa;have e4:=k4.cell)
 all_goals
  go_wp2;simp only [List.getElem_toArray,List.getElem_cons_succ,List.getElem_cons_zero,Act.put,List.setIfInBounds_toArray,List.set_cons_succ,List.set_cons_zero];have ah:=ae.size;have af:=aa.size;simp at af
  have ac:∀k,k<w.heap.size->ag k=ow k:=λk hk=>(ad.agree k (by simp;omega)).trans (Own.ext_old hk)
  first
   |exact bodyPost_ret (v:=.tuple #[.pointer (some ⟨w2.heap.size+1,0,none⟩),.int .i64 0]) (by simp [results,Tryz.results130,go_sem]) rfl (zhH (rb:=w2.heap.size) (pbx) (Blk.new (by simp)) ((Blk.new rfl).alloc _) ((jP.loc bb qf (t++ [0])).below ab (pbx)) (by omega) (by omega) ac)
   |exact bodyPost_ret (v:=.tuple #[.pointer (some ⟨w2.heap.size,0,none⟩),.int .i64 0]) (by simp [results,Tryz.results130,go_sem]) rfl (zhH (rb:=w1.heap.size+1) (pbx) (Blk.new rfl) (Blk.alloc (Blk.call (Blk.drew (Blk.new (by simp))) aa) _) ((jP.loc bb qf (t++ [0])).below ab (pbx)) (by omega) (by omega) ac)
def Yk(B:Nat)(f:yB)(t:List Nat)(ow:Own)(w:World)(v:Value)(e:Ending)(w':World):Prop:=
 e=.returned v/\∃ow',zp t ow w ow' w'/\zF B f t ow' w'
theorem Xp(B:Nat)(f:yB)(t:List Nat)(ow:Own)(v:Int)(sw:Bool)(w:World)(h:zF B f t ow w)(hl:f.eras.length<=536870912):
 Calls prog 336 #[.pointer (some ⟨B,0,none⟩),.int .i64 v,.bool sw] w (Yk B (xy f v sw) t ow w (.tuple #[])):=by
 have ab:=Xo B f t ow;obtain⟨⟨ep,ve,st⟩,hn⟩:∃n,vo f.eras=n:=⟨_,rfl⟩;rw [hn] at ab;unfold Yh at ab;have h0:=h;obtain⟨au,bb,ev,hB,ai,hR,o1,o2⟩:=h;have ac:(xy f v sw).eras=f.eras++ [((ep+1)% 4294967296,v,f.count)]:=by unfold xy;rw [hn]
 unfold vv at hB;have aw:IntKind.u32.wrap ((ep:Int)+1)=(((ep+1)% 4294967296:Nat):Int):=by rw [IntKind.wrap_u32];omega
 generalize hep:(ep+1)% 4294967296=ep1 at*
 replace hep:=hid hep;replace ac:=hid ac;replace ab:=hid ab;replace hn:=hid hn;replace h0:=hid h0;replace ai:=hid ai;replace o2:=hid o2
 go_enter func336,ntmps336
 refine wp_seq_k λK0 hK0=>?_
 refine zd [O 0,O 1,O 2,O 3,O 4,O 5,O 9,O 10,O 11,O 12,O 13,E 6,O 7,O 8,E 14,E 15,E 16,O 17,O 18,E 19] (some 19) (λw'=>Blk w' B #[.pointer (some ⟨bb,0,none⟩),ev,.int .i64 f.count,.bool f.sw] 284/\True) (by kernel_rfl) (by kernel_rfl) ⟨hB.drew,trivial⟩ ?_
 refine Wd ?_
 refine zc rfl (λK hK=>?_)
 go_wp2_with (go_at_call 308;refine(ab.out _ ((zF.loc B f t).below h0.out (Below.drew (N2 _ _))) (by omega)).mono ?_;rintro e w1 ⟨rfl,ao⟩)
 have k1:=hB.drew.call ao;refine hK.out _ _ (λ_=>⟨k1,trivial⟩) ?_;clear hK;have aq:=zhD ep ve st
 refine Wd ?_
 clear aq;refine zc rfl (λK hK=>?_);go_wp2;refine hK.out _ _ (λ_=>⟨k1,trivial⟩) ?_;clear hK;refine zc rfl (λK hK=>?_);go_wp2;refine hK.out _ _ (λ_=>⟨k1.alloc _,trivial⟩) ?_;clear hK;refine zc rfl (λK hK=>?_);have ak:Below w.heap.size w w1:=pbx;have ae:Below w.heap.size w (w1.alloc (.cells #[.int .u32 (ep1:Int),.int .i64 v,.int .i64 f.count] 197)):=pbx;obtain⟨ar,W3,ad,af,ah,ag⟩:=zM zm9 (hR.below ae) (jD (n:=1) (size:=3) (cap:=1) (Blk.new (w:=w1) (cs:=#[.int .u32 (ep1:Int),.int .i64 v,.int .i64 f.count]) (t:=197) rfl) rfl (N0 1)) (VA [(ep1,v,f.count)]) (by omega) 217;refine zv rfl _ _ _ rfl rfl rfl ad ?_;unfold wpList;have aa:∀g,ev.ownBlock=some g->g≠B/\g<w.heap.size:=λg hg=>⟨hR.ne_blk hB (by decide) hg,hR.lt hg⟩
 have k3:=(k1.alloc (.cells #[.int .u32 (ep1:Int),.int .i64 v,.int .i64 f.count] 197)).kept (ah.block B (by have:=k1.lt;simp;omega) (λe=>(aa B e.symm).1 rfl));refine hK.out _ _ (λ_=>⟨k3,trivial⟩) ?_;clear hK ad;obtain⟨sa,sm,sc,rfl⟩:=af.shape
 refine Wd ?_
 have e3:=k3.cell;have f3:=k3.frozen;have l3:=k3.lt;replace aa:=hid aa;refine zc rfl (λK hK=>?_);go_wp2;refine hK.out _ _ (λh=>absurd rfl h) ?_;clear hK e3 f3;have k4:=k3.set (o:=1) (.slice sa sm sc);have e4:=k4.cell;have f4:=k4.frozen;refine zg ?_;refine hK0 _ _ ?_;go_wp2;go_end0
 have aj:=hB.lt;have an:=k1.lt
 have al:∀g,(Value.slice sa sm sc).ownBlock=some g->(ev.ownBlock=some g∨g=w1.heap.size+1):=λg hg=>by
  rw [hg] at ag
  rcases ag with h|h
  ·exact .inl h.symm
  right;simpa using h
 have am:∀g,(Value.slice sa sm sc).ownBlock=some g->g≠B:=λg hg=>by
  rcases al g hg with h|h
  ·exact(aa.out g h).1
  omega
 have ap:∀k,k<w.heap.size->k≠B->ev.ownBlock≠some k->((W3.setCell ⟨B,1,none⟩ (.slice sa sm sc)).setCell ⟨B,3,none⟩ (.bool sw)).heap[k]?=w.heap[k]?:=λk hk h1 h2=>
  (N4 _ _ _ _ h1).trans ((N4 _ _ _ _ h1).trans ((ah.block k (Nat.lt_of_lt_of_le hk ae.size) (λe=>h2 e.symm)).trans (ae.block k hk)))
 refine⟨rfl,ow.ext w.heap.size (λk=>(Value.slice sa sm sc).ownBlock=some k) t,⟨?_,λk hk=>Own.ext_old hk⟩,⟨by rw [ac.out];simp,bb,.slice sa sm sc,k4.set (o:=3) (.bool sw),?_,?_,?_,?_⟩⟩
 ·exact(((Mod.of_below (λk=>Sub t (ow k)) ae).trans (Mod.grown (X:=λk=>ev.ownBlock=some k) ah (λk h=>h)) (λ_ _ e=>e) (λk _ e=>by rw [o2.out k e];exact Sub.rfl' t)).thenSet (p:=⟨B,1,none⟩) (by simp only [o1];exact Sub.rfl' t) _).thenSet (p:=⟨B,3,none⟩) (by simp only [o1];exact Sub.rfl' t) _
 ·refine(jP.loc bb f.book (t++ [0])) _ _ _ _ ai.out ?_ (λk hk hs=>⟨Own.ext_old hk,ap k hk (λe=>?_) (λe=>?_)⟩)
  ·have:=ae.size;have:=ah.size;simp;omega
  ·subst e;rw [o1] at hs;exact zO t 0 hs
  rw [o2.out k e] at hs;exact zO t 0 hs
 ·rw [ac.out,N1,U2,U5]
  exact Row.kept (w:=W3) af (λg hg=>(N4 _ _ _ _ (am g hg)).trans (N4 _ _ _ _ (am g hg)))
 ·rw [Own.ext_old aj,o1]
 intro g hg
 rcases al g hg with h|h
 ·rw [Own.ext_old (aa.out g h).2,o2.out g h]
 rw [Own.ext_new (by have:=ak.size;omega) hg]
