/- PARTS OF THE PROOF. -/
import Derived.Deep.RegionLaw
import Derived.IntWalk
import Derived.Test.YtofppfoioodblaaGreatDoorTC04
set_option maxRecDepth 8000
set_option maxHeartbeats 4000000
open Go.Proofs.Tryz
namespace Go.Proofs.YtofppfoioodblaaGreatDoor
section
open Go Go.RowKit Go.Shelf Go.Extern.Stop Go.Stop Go.Extern
attribute [local go_sem] Oper.semAt_some zB zp
theorem zaB(tk:List Nat)(lv:Value)(mb i c:Nat)(hi:i<tk.length):(jV tk lv mb).setIfInBounds i (.int .u32 c)=jV (tk.set i c) lv mb:=by
 simp [jV,List.set_append_left,hi,List.map_set]
theorem VL(tk:List Nat)(lv lv':Value)(mb:Nat)(h:tk.length=16):(jV tk lv mb).setIfInBounds 16 lv'=jV tk lv' mb:=by
 have h1:((tk.map λn:Nat=>Value.int .u32 (n:Int))).length=16:=by simpa using h
 unfold jV
 generalize(tk.map λn:Nat=>Value.int .u32 (n:Int))=l at h1
 simp [List.set_append_right,h1]
def zbI(B mb NB:Nat)(lv:Value)(tk:List Nat)(L:List zA)(WS:List (MId×zA))(W0:World)(acc:List zA)(nv:Value)(s:List (MId×zA)×Option zA)(X:Nat->Prop)(W:World):Prop:=
 acc++QS s=L/\zbH s=WS/\zde s.1/\(∀x,s.2=some x->zx x=true)/\
  Fr (λk=>k=B∨k=mb∨k=NB) W0 X W/\
  Blk W B (jV (qd tk acc) lv mb) 358/\z6 W mb idV (s.1.map λp=>(p.1,y7 p.2))/\Blk W NB #[nv] 42/\
  Row W 78 3 nv acc.length (acc.flatMap zg)/\(∀g,nv.ownBlock=some g->W0.heap.size<=g/\¬X g)
theorem zbI.stab {B mb NB:Nat}{lv:Value}{tk:List Nat}{L:List zA}{WS:List (MId×zA)}{W0:World}{acc:List zA}{nv:Value}{s:List (MId×zA)×Option zA}{X X':Nat->Prop}{W W':World}(hB:B<W0.heap.size)(hm:mb<W0.heap.size)(hN:NB<W0.heap.size)
 (h:zbI B mb NB lv tk L WS W0 acc nv s X W) (hmod:Mod X W W') (hx:∀k,X' k->X k∨(W.heap.size<=k/\k<W'.heap.size)):zbI B mb NB lv tk L WS W0 acc nv s X' W':=by
 obtain⟨h1,h2,h3,h4,aa,ac,hM,ad,hR,hn⟩:=h;refine⟨h1,h2,h3,h4,aa.step hmod hx,ac.kept (aa.block hmod hB),hM.kept (aa.block hmod hm),ad.kept (aa.block hmod hN),hR.mod hmod (λg hg=>(hn g hg).2),λg hg=>⟨(hn g hg).1,λhX=>?_⟩⟩
 rcases hx g hX with h|h
 ·exact(hn g hg).2 h
 have:=hR.lt hg;omega
def zjP(B:Nat)(t:List Nat)(ow:Own)(w:World)(R:vL×List zA×Int)(e:Ending)(w':World):Prop:=
 ∃v ow',e=.returned (.tuple #[v,.int .i64 R.2.2])/\zt t ow w ow' w'/\j2 B R.1 t ow' w'/\
    Row w' 78 3 v R.2.1.length (R.2.1.flatMap zg)/\(∀g,v.ownBlock=some g->w.heap.size<=g/\ow' g=[])
theorem zjQ(B:Nat)(b:vL)(t:List Nat)(_ht:t≠ [])(ow:Own)(m:zA)(w:World)(hb:j2 B b t ow w)(hl:b.log.length+b.ws.length<=536870912):Calls prog 355 #[.pointer (some ⟨B,0,none⟩),y7 m] w (zjP B t ow w (xL b m)):=by
 obtain⟨⟨i,c⟩,d⟩:=m;have bi:=hb;obtain⟨ai,lv,mb,hB,hR,hM,o1,o2,o3⟩:=hb;obtain⟨R,au⟩:∃R,xL b ((i,c),d)=R:=⟨_,rfl⟩;rw [au]
 cases hr:zx ((i,c),d)
 ·have hp:R=(b,[],100):=by rw [← au];unfold xL;rw [if_pos hr]
  clear au;unfold y7;refine zm func355 rfl ?_;simp only [ntmps355,R8,Nat.reduceAdd,Nat.reduceSub]
  go_wp2_with (go_at_call 91;refine(vG _ _ _ _).mono ?_;rintro e w1 ⟨rfl,az⟩)
  have ay:Below w.heap.size w w1:=pbx;rw [hp];exact jU (v:=.tuple #[.slice none 0 0,.int .i64 100]) (by simp [results,Tryz.results355,go_sem]) ⟨_,ow,rfl,zt.of_below t ow ay,(j2.loc B b t).below bi ay,z7 _ _ _,by simp [Value.ownBlock]⟩
 by_cases hc:c=Jk b i
 ·have hp:R=({tk:=qd b.tk (zX b.ws.length b.ws ((i,c),d)).2,log:=b.log++(zX b.ws.length b.ws ((i,c),d)).2,ws:=(zX b.ws.length b.ws ((i,c),d)).1},(zX b.ws.length b.ws ((i,c),d)).2,0):=by rw [← au];unfold xL;rw [if_neg (by simp [hr]),if_neg (by simp;exact hc)]
  have t1:((c:Int) !=(Jk b i:Nat))=false:=bne_eq_false_iff_eq.2 (by rw [← hc]);clear au hc;replace hp:=hid hp;unfold y7;refine zm func355 rfl ?_;simp only [ntmps355,R8,Nat.reduceAdd,Nat.reduceSub]
  go_wp2_with (first
   |(go_at_call 91;refine(vG _ _ _ _).mono ?_;rintro e w1 ⟨rfl,az⟩
     have ay:Below w.heap.size w w1:=pbx;have a6:=(j2.loc B b t).below bi ay;have kb:Blk w1 w.heap.size #[.pointer (some ⟨B,0,none⟩)] 279:=Blk.call (bkx) az;have k0:Blk w1 (w.heap.size+1) #[.int .i64 i,.int .u32 c,.string (bs d)] 78:=Blk.call (bkx) az;have c0:=k0.cell;have b0:=kb.cell;have b6:=kb.lt
     have l0:=k0.lt)
   |(go_at_call 361;refine(zeJ B b t ow _ _ a6).mono ?_;rintro e w2 ⟨rfl,rfl⟩)
   |(go_at_call 363;refine(zld B ((i,c),d) _).mono ?_;rintro e w3 ⟨rfl,rfl⟩))
  obtain⟨NB,a0⟩:∃NB,NB=w2.heap.size:=⟨_,rfl⟩;obtain⟨W0,an⟩:∃W0,W0=((w2.alloc (.cells #[.slice none 0 0] 42)).alloc (.cells #[.pointer (some ⟨B,0,none⟩)] 279)).alloc (.cells #[.int .i64 i,.int .u32 c,.string (bs d)] 78):=⟨_,rfl⟩;have co:Blk W0 (NB+1) #[.pointer (some ⟨B,0,none⟩)] 279:=by rw [an,a0];exact(Blk.new (by simp)).alloc _
  have b8:Blk W0 (NB+1+1) #[.int .i64 i,.int .u32 c,.string (bs d)] 78:=by rw [an,a0];exact Blk.new (by simp)
  have cv:Blk W0 NB #[.slice none 0 0] 42:=by rw [an,a0];exact((Blk.new rfl).alloc _).alloc _
  have a2:Below w.heap.size w W0:=by rw [an];exact pbx
  have df:W0.heap.size=NB+3:=by rw [an,a0];simp
  rw [← a0,← an];have lB:B<W0.heap.size:=Nat.lt_of_lt_of_le hB.lt a2.size;have lm:mb<W0.heap.size:=Nat.lt_of_lt_of_le hM.lt a2.size;have lw:w.heap.size<NB:=by rw [a0];exact kb.lt
  have ch:B<w.heap.size:=hB.lt;have cl:mb<w.heap.size:=hM.lt;have bm:B≠mb:=hB.ne_map hM;have qb:Blk W0 w.heap.size #[.pointer (some ⟨B,0,none⟩)] 279:=by rw [an];exact((kb.alloc _).alloc _).alloc _
  have be:=hB.kept (a2.block B hB.lt);have bj:=hM.kept (a2.block mb hM.lt);have bf:=hR.kept (λg hg=>a2.block g (hR.lt hg));clear an a0 c0 b0 b6 l0 kb k0 a6 az
  refine VZ (gf:=366) (lb:=#[.pointer (some ⟨NB+1+1,0,none⟩),.pointer (some ⟨NB+1,0,none⟩)]) rfl (enters_of func366 (by kernel_rfl) rfl)
   (zjL (NB+1+1) (NB+1) B mb ((i,c),d) b.ws ai.keys hr) (λ_=>rfl)
   (λs X W=>∃acc nv,zbI B mb NB lv b.tk (zX b.ws.length b.ws ((i,c),d)).2 (zX b.ws.length b.ws ((i,c),d)).1 W0 acc nv s X W)
   (λ_ _ _=>False)
   (λs X X' W W' h hm hx=>by obtain⟨acc,nv,h⟩:=h;exact⟨acc,nv,h.stab lB lm (by omega) hm hx⟩)
   (λ_ _ _ _ _ _ h _ _=>h)
   (λs X W h=>by
    obtain⟨acc,nv, -, -, -, -,ac,cd,cf, -⟩:=h
    exact⟨b8.mod ac.2 (by omega),((co.mod ac.2 (by omega)).cell 0).trans rfl,(cd.cell 17).trans (xT _ _ _ (by rw [xG];exact ai.sixteen)),cf⟩)
   ⟨[],.slice none 0 0,rfl,rfl,ai.keys,λx hx=>by cases hx;exact hr,Fr.refl _ _,be,bj,cv,z7 _ _ _,by simp [Value.ownBlock]⟩
   (λs x a' X W=>∃acc nv cb,a'={tmps:=#[.pointer (some ⟨B,0,none⟩),.agg #[.int .i64 i,.int .u32 c,.string (bs d)],.pointer (some ⟨w.heap.size,0,none⟩),.pointer (some ⟨w.heap.size+1,0,none⟩),.slice none 0 0,.int .i64 0,.int .u32 (Jk b i:Nat),.pointer (some ⟨NB,0,none⟩),.pointer (some ⟨cb,0,none⟩),.pointer (some ⟨B,0,none⟩),.bool false,.agg #[.int .i64 i,.int .u32 c,.string (bs d)],.bool true,.bool false,.pointer (some ⟨B,0,none⟩),.pointer (some ⟨w.heap.size+1,0,none⟩),.pointer (some ⟨w.heap.size+1,0,none⟩),.int .i64 i,.int .u32 (Jk b i:Nat),.pointer (some ⟨w.heap.size+1,0,none⟩),.pointer (some ⟨w.heap.size+1,1,none⟩),.int .u32 c,.int .u32 (Jk b i:Nat),.bool false,undef,undef,undef,.pointer (some ⟨B,0,none⟩),.agg #[.int .i64 i,.int .u32 c,.string (bs d)],.func (.func 366) #[] #[.pointer (some ⟨NB+1+1,0,none⟩),.pointer (some ⟨NB+1,0,none⟩)],.agg #[.int .i64 x.1.1,.int .u32 x.1.2,.string (bs x.2)],undef,undef,undef,undef,undef,undef,undef,undef,undef,undef,undef,undef,undef,undef,undef,undef,undef,undef,undef,undef,undef,undef,undef,undef,undef,undef,undef,undef,undef,undef],defers:=[] } /\s.2=some x/\W0.heap.size<=cb/\¬X cb/\Blk W cb #[.int .i64 x.1.1,.int .u32 x.1.2,.string (bs x.2)] 78/\(∀g,nv.ownBlock=some g->g≠cb)/\
    zbI B mb NB lv b.tk (zX b.ws.length b.ws ((i,c),d)).2 (zX b.ws.length b.ws ((i,c),d)).1 W0 acc nv s X W)
   ?ax ?assign ?body ?done ?stop
  case ax=>
   rintro s x a' u X X' W W'⟨acc,nv,cb,ca,h1,h2,bk,a5,a1,h⟩ hm hX;exact⟨acc,nv,cb,ca,h1,h2,λh=>(hX cb h).elim bk (λh'=>by have:=a5.lt;omega),a5.mod hm bk,a1,h.stab lB lm (by omega) hm hX⟩
  case assign=>
   rintro l' s x X W K⟨acc,nv,h⟩⟨h1,h2,h3⟩ hK;have ac:=h.2.2.2.2.1;have bh:=h.2.2.2.2.2.2.2.2.1;have cq:¬X W.heap.size:=ac.next;unfold y7
   gi_wp2
   exact hK _ _ ⟨acc,nv,W.heap.size,rfl,h1,ac.2.size,cq,Blk.new rfl,λg hg=>by have:=bh.lt hg;omega,h.stab lB lm (by omega) (Mod.alloc _ _ _) (λk hk=>.inl hk)⟩ (jJ.of_mod (Mod.alloc (λ_=>False) _ _) (λ_ _ _ h=>h))
  case body=>
   rintro l' s x a' X W⟨acc,nv,cb,rfl,h1,h2,bk,a5,a1,h⟩ c2 _;obtain⟨g1,g2,g3,g4,ac,kB,kM,kN,kR,kn⟩:=h;have b9:=g4 x h1;obtain⟨⟨xi,xc⟩,xd⟩:=x
   obtain⟨xk,rfl,ci⟩:∃k:Nat,xi=k/\k<16:=by
    simp [zx] at b9
    exact⟨xi.toNat,by omega,by omega⟩
   have cx:(xk:Int)<16:=by omega
   have e0:=a5.cell;have eb:=(qb.mod ac.2 (by omega)).cell;have eB:=(kB.cell 17).trans (xT _ _ _ (by rw [xG];exact ai.sixteen));have b1:=kM.kept (w':=W.drew) rfl;obtain⟨o,aq,a4⟩:=b1.delete VK Tryz.underlying138 #[138,76] 0 rfl ((xk:Int),xc);unfold idV at aq;simp only at e0
   gi_wp2
   refine xj 6 (by rfl) (λ⟨_,_,h⟩=>h) (by kernel_rfl) (by kernel_rfl) ?_;simp only [List.take_succ_cons,List.take_zero,List.drop_succ_cons,List.drop_zero]
   repeat still_step
   try refine wpStill_nil ?_
   refine yt rfl _ _ _ _ rfl rfl rfl aq ?_;unfold wpList;obtain⟨W1,aj⟩:∃W1,W1=W.drew.putObj mb o:=⟨_,rfl⟩;have cj:cb≠mb:=by have:=ac.2.size;omega
   have cg:cb≠B:=by have:=ac.2.size;omega
   have c7:cb≠NB:=by have:=ac.2.size;omega
   have a7:NB≠B:=by omega
   have cn:w.heap.size≠B:=by omega
   have dc:w.heap.size≠NB:=by omega
   have ba:Blk W1 B (jV (qd b.tk acc) lv mb) 358:=by rw [aj];exact(kB.drew).putObj bm o
   have bt:Blk W1 NB #[nv] 42:=by rw [aj];exact(kN.drew).putObj (by omega) o
   have bn:Blk W1 cb #[.int .i64 xk,.int .u32 xc,.string (bs xd)] 78:=by rw [aj];exact(a5.drew).putObj cj o
   have bq:Blk W1 w.heap.size #[.pointer (some ⟨B,0,none⟩)] 279:=by rw [aj];exact((qb.mod ac.2 (by omega)).drew).putObj (by omega) o
   have bz:z6 W1 mb idV ((del ((xk:Int),xc) s.1).map λp=>(p.1,y7 p.2)):=by rw [aj,← V5];exact a4
   have b2:Row W1 78 3 nv acc.length (acc.flatMap zg):=by rw [aj];exact(show Row W.drew _ _ _ _ _ from kR).kept (λg hg=>U1 (by have:=(kn g hg).1;omega))
   have b4:Mod (λk=>k=B∨k=mb∨k=NB) W W1:=by rw [aj];exact((Mod.refl _ W).thenDrew).thenPut (.inr (.inl rfl)) o
   rw [← aj];clear e0 eb eB aq a4 b1 aj;have e0:=bn.cell;have eb:=bq.cell;have f0:=ba.frozen xk;have cz:=(ba.cell xk).trans (ZC _ _ _ xk (by rw [xG];exact ai.sixteen) ci)
   gi_wp2
   refine xj 10 (by rfl) (λ⟨_,_,h⟩=>h) (by kernel_rfl) (by kernel_rfl) ?_;simp only [List.take_succ_cons,List.take_zero,List.drop_succ_cons,List.drop_zero]
   repeat still_step
   try refine wpStill_nil ?_
   go_wp2;obtain⟨W2,am⟩:∃W2,W2=(W1.setCell ⟨B,xk,none⟩ (.int .u32 xc)).drew:=⟨_,rfl⟩
   have bu:Blk W2 B (jV (qd b.tk (acc++ [(((xk:Int),xc),xd)])) lv mb) 358:=by
    rw [am,zfN,Int.toNat_natCast,← zaB _ _ _ _ _ (by rw [xG];have:=ai.sixteen;omega)];exact(ba.set _).drew
   have bc:Blk W2 NB #[nv] 42:=by rw [am];exact(bt.other a7 _).drew
   have bo:Blk W2 cb #[.int .i64 xk,.int .u32 xc,.string (bs xd)] 78:=by rw [am];exact(bn.other cg _).drew
   have a4:z6 W2 mb idV ((del ((xk:Int),xc) s.1).map λp=>(p.1,y7 p.2)):=by rw [am];exact bz.kept (N4 _ _ _ _ (show mb≠B from Ne.symm bm))
   have cr:Row W2 78 3 nv acc.length (acc.flatMap zg):=by rw [am];exact b2.kept (λg hg=>N4 _ _ _ _ (show g≠B by have:=(kn g hg).1;omega))
   have b5:Mod (λk=>k=B∨k=mb∨k=NB) W W2:=by rw [am];exact(b4.thenSet (p:=⟨B,xk,none⟩) (.inl rfl) _).thenDrew
   rw [← am];clear e0 eb f0 cz ba bt bn bq bz b2 b4 am;have e0:=bo.cell;have en:=bc.cell;have fn:=bc.frozen;have lN:=bc.lt;have lc:=bo.lt
   have aw:acc.length+1<=1073741824:=by
    have h5:=congrArg List.length g1;have h6:=JG b.ws.length b.ws ((i,c),d);simp only [N1] at h5;omega
   have ap:∀g,nv.ownBlock=some g->g≠NB:=λg hg=>by have:=(kn g hg).1;omega
   replace aw:=hid aw;replace ap:=hid ap
   gi_wp2_with (gi_at_builtin
                obtain⟨de,W3,ag,af,ah,ad⟩:=zQ zbD (cr.below ((N2 _ _).alloc (N0 _) (.cells #[.int .i64 (xk:Int),.int .u32 (xc:Int),.string (bs xd)] 78))) (jP (n:=1) (size:=3) (Blk.new (w:=W2) (cs:=#[.int .i64 (xk:Int),.int .u32 (xc:Int),.string (bs xd)]) (t:=78) rfl) rfl (N0 1)) (jv [(((xk:Int),xc),xd)]) aw.out 42;refine j1 rfl _ _ _ rfl rfl rfl ag ?_;have bd:Blk W3 NB #[nv] 42:=(bc.alloc _).kept (ah.block NB (by simp;omega) (λe=>ap.out NB e.symm rfl));have c6:=bd.cell;have c9:=bd.frozen;have c1:=bd.lt;obtain⟨sa,sm,sc,rfl⟩:=af.shape
                clear ag)
   have ct:=g3.del ((xk:Int),xc);have al:=zjO (ws:=s.1) (x:=(((xk:Int),xc),xd)) g3;have hs:s=(s.1,some (((xk:Int),xc),xd)):=by rw [← h1]
   have bp:Mod (λk=>k=B∨k=mb∨k=NB∨nv.ownBlock=some k) W (W3.setCell ⟨NB,0,none⟩ (.slice sa sm sc)):=
    (((b5.mono (λk _ h=>by rcases h with h|h|h;exact .inl h;exact .inr (.inl h);exact .inr (.inr (.inl h)))).thenAlloc _).trans (Mod.grown ah (λk h=>.inr (.inr (.inr h)))) (λ_ _ e=>e) (λ_ _ e=>e)).thenSet (p:=⟨NB,0,none⟩) (.inr (.inr (.inl rfl))) _
   have bv:∀k,k<W2.heap.size->nv.ownBlock≠some k->(W3.setCell ⟨NB,0,none⟩ (.slice sa sm sc)).heap[k]?=W2.heap[k]?∨k=NB:=λk hk a1=>by
    by_cases hkN:k=NB
    ·exact .inr hkN
    exact .inl ((N4 _ _ _ _ hkN).trans ((ah.block k (by simp;omega) (λe=>a1 e.symm)).trans (U4 _ _ _ hk)))
   refine⟨⟨acc++ [(((xk:Int),xc),xd)],.slice sa sm sc,?_,?_,ct,λy hy=>(zfM (x:=(((xk:Int),xc),xd)) g3 hy).2,ac.mod bp (λk hk h=>?_),?_,?_,bd.set _,?_,?_⟩,jJ.of_mod bp (λk hk hX h=>?_)⟩
   ·rw [← g1,hs,al.1];simp;rfl
   ·rw [← g2,hs,al.2];rfl
   ·rcases h with h|h|h|h
    ·exact .inl h
    ·exact .inr (.inl h)
    ·exact .inr (.inr h)
    have:=(kn k h).1;omega
   ·exact bu.kept ((bv B bu.lt (λe=>by have:=(kn B e).1;omega)).resolve_right (by omega))
   ·exact a4.kept ((bv mb a4.lt (λe=>by have:=(kn mb e).1;omega)).resolve_right (by omega))
   ·simp only [N1,U2,U5]
    refine Row.kept (w:=W3) af (λg hg=>N4 _ _ _ _ (show g≠NB from λe=>?_));subst e;rw [hg] at ad
    rcases ad with h|h
    ·have:=(kn _ h.symm).1;omega
    simp at h;omega
   ·intro g hg
    rw [hg] at ad
    rcases ad with h|h
    ·exact kn g h.symm
    have:=b5.size
    have:=ac.2.size;simp at h
    exact⟨by omega,λhX=>by have:=(ac.1 g hX).2;omega⟩
   have:=ac.1 k hX
   rcases h with h|h|h|h
   ·omega
   ·omega
   ·omega
   exact(kn k h).2 hX
  case done=>
   rintro D s X W hD bw a8⟨acc,nv,g1,g2,g3,g4,ac,kB,kM,kN,kR,kn⟩ ao;obtain⟨ck,os⟩:=s;have cp:os=none:=a8;subst cp;have ae:acc=(zX b.ws.length b.ws ((i,c),d)).2:=by rw [← g1];simp [QS]
   have ar:ck=(zX b.ws.length b.ws ((i,c),d)).1:=g2;have eb:=(qb.mod ac.2 (by omega)).cell;have eB:=(kB.cell 16).trans (Yd _ _ _ (by rw [xG];exact ai.sixteen));have en:=kN.cell;have fB:=kB.frozen 16;clear g1 g2 a8 g3 g4;replace ae:=hid ae;replace ar:=hid ar;go_wp2
   have bh:Row W.drew 78 3 lv b.log.length (b.log.flatMap zg):=Row.kept (w:=W) (bf.mod ac.2 (λg hg h=>by
    have:=hR.lt hg
    rcases h with h|h|h
    ·exact hR.ne_blk hB (by decide) hg h
    ·exact hR.ne_map hM hg h
    omega)) (λ_ _=>rfl)
   obtain⟨db,W5,ag,af,ah,ad⟩:=zQ zbD bh (Src.kept (w:=W) kR.src (λ_ _ _ _=>rfl)) (jv acc) (by rw [ae.out];have:=JG b.ws.length b.ws ((i,c),d);omega) 42;have aa:∀k,lv.ownBlock=some k->k<w.heap.size/\k≠B/\k≠mb:=λk hk=>⟨hR.lt hk,hR.ne_blk hB (by decide) hk,hR.ne_map hM hk⟩
   have ak:∀k,k<W.heap.size->lv.ownBlock≠some k->W5.heap[k]?=W.heap[k]?:=λk hk a1=>ah.block k hk (λe=>a1 e.symm)
   have a3:=kB.kept (ak B kB.lt (λe=>(aa B e).2.1 rfl));have b7:=kN.kept (ak NB kN.lt (λe=>by have:=(aa NB e).1;omega));have a9:=(ak D (N5.1 ao).1 (λe=>by have:=(aa D e).1;omega)).trans ao;have c4:=kM.kept (ak mb kM.lt (λe=>(aa mb e).2.2 rfl));have c8:=kR.kept (λg hg=>ak g (kR.lt hg) (λe=>by have:=(aa g e).1;have:=(kn g hg).1;omega));obtain⟨sa,sm,sc,rfl⟩:=af.shape;have da:=(a3.cell 16).trans (Yd _ _ _ (by rw [xG];exact ai.sixteen));have cy:=a3.frozen 16;have c3:=a3.lt;have dd:=b7.cell;have a7:NB≠B:=by omega
   have cm:=(((qb.mod ac.2 (by omega)).kept (ak w.heap.size (qb.mod ac.2 (by omega)).lt (λe=>by have:=(aa w.heap.size e).1;omega))).cell);replace aa:=hid aa;replace ak:=hid ak;clear fB
   apply Ju (Wp:=λw'=>w'=W5.setCell ⟨B,16,none⟩ (.slice sa sm sc))
   case h=>
    go_region_law (refine Qt _ _ _ rfl rfl rfl ag ?_)
    all_goals exact Jt rfl
   case h2=>
   rintro w6 rfl;clear ag eB en eb cm;go_wp2
   replace a3:Blk (W5.setCell ⟨B,16,none⟩ (.slice sa sm sc)) B (jV (qd b.tk acc) (.slice sa sm sc) mb) 358:=by
    rw [← VL (lv:=lv) _ _ _ (by rw [xG];exact ai.sixteen)];exact a3.set _
   have b3:B≠D:=by omega
   have c5:=(N5.1 ao).1;have cu:∀k,lv.ownBlock=some k->k≠D:=λk hk=>by have:=(aa.out k hk).1;omega
   have br:∀k,k<W.heap.size->lv.ownBlock≠some k->k≠B->k≠D->((W5.setCell ⟨B,16,none⟩ (.slice sa sm sc)).putObj D (.deferred none)).heap[k]?=W.heap[k]?:=λk hk h1 h2 h3=>
    (U1 h3).trans ((N4 _ _ _ _ h2).trans (ak.out k hk h1))
   have bl:Mod (λk=>k=B∨k=mb∨k=NB∨lv.ownBlock=some k∨k=D) W0 ((W5.setCell ⟨B,16,none⟩ (.slice sa sm sc)).putObj D (.deferred none)):=
    (((ac.2.mono (λk _ h=>by rcases h with h|h|h;exact .inl h;exact .inr (.inl h);exact .inr (.inr (.inl h)))).trans (Mod.grown (W:=W) (W':=W5) (row:=lv.ownBlock) ⟨ah.os,ah.tape,ah.output,ah.size,ah.block⟩ (λk h=>.inr (.inr (.inr (.inl h))))) (λ_ _ e=>e) (λ_ _ e=>e)).thenSet (p:=⟨B,16,none⟩) (.inl rfl) _).thenPut (.inr (.inr (.inr (.inr rfl)))) _
   refine jb (D:=D) (v:=.tuple #[nv,.int .i64 0]) ((N4 _ _ _ _ (Ne.symm b3)).trans a9) (by simp [results,Tryz.results355,go_sem]) ?_
   have bb:∀g,(Value.slice sa sm sc).ownBlock=some g->(lv.ownBlock=some g∨g=W.heap.size):=λg hg=>by
    rw [hg] at ad
    rcases ad with h|h
    ·exact .inl h.symm
    right;simpa using h
   have cc:Mod (λk=>Sub t (ow k)) w ((W5.setCell ⟨B,16,none⟩ (.slice sa sm sc)).putObj D (.deferred none)):=
    (Mod.of_below _ a2).trans bl (λ_ _ e=>e) (λk hk h=>by
     rcases h with h|h|h|h|h
     ·rw [h,o1];exact Sub.rfl' t
     ·rw [h,o2];exact Sub.rfl' t
     ·omega
     ·rw [o3 k h];exact Sub.rfl' t
     omega)
   rw [hp.out];refine⟨nv,ow.ext w.heap.size (λk=>(Value.slice sa sm sc).ownBlock=some k) t,rfl,⟨cc,λk hk=>Own.ext_old hk⟩,⟨ai.row hr _,.slice sa sm sc,mb,?_,?_,?_,?_,?_,?_⟩,?_,?_⟩
   ·rw [← ae.out];exact a3.putObj b3 _
   ·simp only [N1,U5]
    rw [← ae.out];refine Row.kept (w:=W5) af (λg hg=>(U1 (λe=>?_)).trans (N4 _ _ _ _ (show g≠B from λe=>?_)))
    ·rcases bb g hg with h|h
     ·exact cu g h e
     omega
    rcases bb g hg with h|h
    ·exact(aa.out g h).2.1 e
    omega
   ·rw [← ar.out]
    exact kM.kept (br mb kM.lt (λe=>(aa.out mb e).2.2 rfl) (Ne.symm bm) (by omega))
   ·rw [Own.ext_old ch,o1]
   ·rw [Own.ext_old cl,o2]
   ·intro g hg
    rcases bb g hg with h|h
    ·rw [Own.ext_old (aa.out g h).1,o3 g h]
    rw [Own.ext_new (by omega) hg]
   ·rw [← ae.out]
    refine kR.kept (λg hg=>br g (kR.lt hg) (λe=>?_) (λe=>?_) (λe=>?_))
    ·have:=(kn g hg).1;have:=(aa.out g e).1;omega
    ·have:=(kn g hg).1;omega
    subst e;exact(kn _ hg).2 bw
   intro g hg
   have h1:=(kn g hg).1;refine⟨by omega,Own.ext_none (by omega) (λh=>?_)⟩
   rcases bb g h with h|h
   ·have:=(aa.out g h).1;omega
   have:=kR.lt hg;omega
  case stop=>rintro D c' X W hD bw h;exact h.elim
 have hp:R=((if zhA b (i,c)then b else {b with ws:=put (i,c) ((i,c),d) b.ws}),[],0):=by rw [← au];unfold xL;rw [if_neg (by simp [hr]),if_pos hc]
 have t1:((c:Int) !=(Jk b i:Nat))=true:=bne_iff_ne.2 (λe=>hc (Int.ofNat.inj e));clear au;replace hp:=hid hp;unfold y7;refine zm func355 rfl ?_;simp only [ntmps355,R8,Nat.reduceAdd,Nat.reduceSub]
 go_wp2_with (first
  |(go_at_call 91;refine(vG _ _ _ _).mono ?_;rintro e w1 ⟨rfl,az⟩
    have ay:Below w.heap.size w w1:=pbx;have a6:=(j2.loc B b t).below bi ay;have kb:Blk w1 w.heap.size #[.pointer (some ⟨B,0,none⟩)] 279:=Blk.call (bkx) az;have k0:Blk w1 (w.heap.size+1) #[.int .i64 i,.int .u32 c,.string (bs d)] 78:=Blk.call (bkx) az;have c0:=k0.cell;have b0:=kb.cell;have b6:=kb.lt
    have l0:=k0.lt)
  |(go_at_call 361;refine(zeJ B b t ow _ _ a6).mono ?_;rintro e w2 ⟨rfl,rfl⟩)
  |(go_at_call 362;refine(zjJ B b t ow ((i,c),d) hr _ a6).mono ?_;rintro e w3 ⟨rfl,cw,ce,bg⟩;replace bg:Hid _:=bg))
 refine jU (v:=.tuple #[.slice none 0 0,.int .i64 0]) (by simp [results,Tryz.results355,go_sem]) ?_;rw [hp.out];exact⟨_,cw,rfl,(zt.of_below t ow ay).trans ce,bg.out,z7 _ _ _,by simp [Value.ownBlock]⟩
end
section
open Go Go.RowKit
def Yg(e:ZA):Value:=.agg #[.int .u32 e.1,.int .i64 e.2.1,.int .i64 e.2.2]
def ji(e:ZA):List Value:=[.int .u32 e.1,.int .i64 e.2.1,.int .i64 e.2.2]
end
section
open Go Go.RowKit Go.Shelf Go.Extern.Stop Go.Stop Go.Extern
attribute [local go_sem] Oper.semAt_some zB zp
theorem zfO(v:Value)(hv:∃a n c,v=.slice a n c)(w:World):Calls prog 278 #[v] w λe w'=>
 e=.returned (.func (.func 322) #[] #[.pointer (some ⟨w.heap.size,0,none⟩)])/\w'=w.alloc (.cells #[v] 217):=by
 obtain⟨a,n,c,rfl⟩:=hv
 go_enter func278,ntmps278
 go_wp2;go_ret
 exact⟨rfl,rfl⟩
theorem Z3(l:List ZA)(k:Nat)(x:ZA)(h:l[k]?=some x)(j:Nat)(hj:j<3):(l.flatMap ji)[k*3+j]?=(ji x)[j]?:=by
 induction l generalizing k with
 |nil=>simp at h
 |cons y l ih=>
  cases k with
  |zero=>
   simp at h;subst h
   rw [List.flatMap_cons,Nat.zero_mul,Nat.zero_add,U8 (by simp [ji];omega)]
  |succ k=>
   simp at h
   have:=ih k h;rw [List.flatMap_cons,U6 (by simp [ji];omega)];rw [← this]
   congr 1
   simp [ji];omega
theorem Xb(cb:Nat)(v:Value)(l:List ZA)(hlen:l.length<=1073741824):
 Qr Fence.wide 2 prog 322 #[.pointer (some ⟨cb,0,none⟩)] (λx:ZA=> #[Yg x])
  (λ(k:Nat) x=>l[k]?=some x) (λk _=>k+1) (λk=>k=l.length)
  (λ_ W=>Blk W cb #[v] 217/\Src W v 3 l.length (l.flatMap ji)) 0:=by
 intro lp J Jx W hJ hJx hRd hY h0;obtain⟨r0,r1⟩:=hRd _ _ _ h0;have e0:=r0.cell;have hF:Fence.wide.fn 322:=trivial;have ae:Fence.wide.round=none:=rfl
 rcases r1.2 with⟨rfl,hn⟩|⟨b,off,cap,rfl,hc, -⟩
 ·obtain rfl:l=[]:=N9 hn
  clear r0 r1;refine callsIn_of_wp func322 rfl hF ?_ ae;simp only [ntmps322,R8,Nat.reduceAdd,Nat.reduceSub]
  gi_wp2
  gi_loopw [7] (λp wr=>p=.int .i64 0/\wr=W) (λp _=>0)
  case atStart=>exact⟨rfl,rfl⟩
  case round=>
   obtain⟨rfl,rfl⟩:=hrel
   gi_wp2
   go_end0
   exact⟨⟨_,rfl⟩,.inl ⟨0,_,rfl,h0⟩⟩
 clear r0 r1
 refine callsIn_of_wp func322 rfl hF ?_ ae;simp only [ntmps322,R8,Nat.reduceAdd,Nat.reduceSub]
 gi_wp2
 gi_loopw [7] (λp wr=>∃(k:Nat)(X:Nat->Prop),p=.int .i64 (k:Int)/\k<=l.length/\J k X wr) (λp _=>l.length - (intOf p).toNat)
 case atStart=>exact⟨0,_,rfl,Nat.zero_le _,h0⟩
 case round=>
  obtain⟨k,X,rfl,hk,ac⟩:=hrel;clear e0
  by_cases hlt:k<l.length
  ·obtain⟨x,hx⟩:∃x,l[k]?=some x:=⟨_,N3 hlt⟩
   obtain⟨-,r1⟩:=hRd _ _ _ ac
   rcases r1.2 with⟨h, -⟩|⟨b',off',cap',h, -,hr⟩
   ·cases h
   cases h
   have aa:∀j,j<3->wr.cell? ⟨b,off+(k*3+j),none⟩=(ji x)[j]?:=λj hj=>by
    have h1:=Z3 l k x hx j hj
    cases hu:(ji x)[j]? with
    |none=>simp [ji] at hu;omega
    |some u=>exact hr _ u (h1.trans hu)
   have c0:wr.cell? ⟨b,off+k*3,none⟩=(ji x)[0]?:=aa 0 (by omega);have c1:wr.cell? ⟨b,off+k*3+1,none⟩=(ji x)[1]?:=aa 1 (by omega);have c2:wr.cell? ⟨b,off+k*3+2,none⟩=(ji x)[2]?:=aa 2 (by omega);have ad:=hY k x _ _ (hJ.alloc (.cells (ji x).toArray 197) ac) hx;obtain⟨ep,ve,st⟩:=x;simp only [ji] at c0 c1 c2 ad;simp only [List.getElem?_cons_zero,List.getElem?_cons_succ] at c0 c1 c2;clear aa hr r1;obtain⟨fn,tmps,assign,body,hy,hR⟩:=ad;unfold Yg at hy
   gi_wp2
   refine hR.mono ?_;rintro e W'(⟨rfl,ag, -⟩|⟨rfl,af⟩)
   ·clear c0 c1 c2 hR hy
    gi_wp2
    go_roundw
    case rel=>exact⟨k+1,_,by go_num,by omega,ag⟩
    case measure=>simp [intOf];omega
   gi_wp2
   refine bodyPost_ret (results_none rfl _ _ _) rfl ?_;exact⟨⟨_,rfl⟩,.inr ⟨_,af⟩⟩
  obtain rfl:k=l.length:=by omega
  gi_wp2
  go_end0
  exact⟨⟨_,rfl⟩,.inl ⟨l.length,X,rfl,ac⟩⟩
end
open Go Go.RowKit Go.Shelf Go.Extern.Stop Go.Stop Go.Extern Go.Lib
attribute [local go_sem] Oper.semAt_some zB zp
def vH(bb:Nat)(ev:Value)(f:yW):Array Value:=#[.pointer (some ⟨bb,0,none⟩),ev,.int .i64 f.count,.bool f.sw]
def zJ(B:Nat)(f:yW)(t:List Nat)(ow:Own)(W:World):Prop:=
 f.eras≠ [] /\∃bb ev,Blk W B (vH bb ev f) 284/\j2 bb f.book (t++ [0]) ow W/\Row W 197 3 ev f.eras.length (f.eras.flatMap ji)/\ow B=t/\∀g,ev.ownBlock=some g->ow g=t
theorem zJ.loc(B:Nat)(f:yW)(t:List Nat):yI t (zJ B f t):=by
 rintro ow ow' W W'⟨aa,bb,ev,hB,ac,hR,o1,o2⟩ hs hk;have kB:=hk B hB.lt (by rw [o1];exact Sub.rfl' t);refine⟨aa,bb,ev,hB.kept kB.2,?_,hR.kept (λg hg=>(hk g (hR.lt hg) (by rw [o2 g hg];exact Sub.rfl' t)).2),kB.1.trans o1,λg hg=>?_⟩
 ·exact(j2.loc bb f.book (t++ [0])) ow ow' W W' ac hs (λk hk1 hk2=>hk k hk1 ((Sub.child t 0).trans hk2))
 exact((hk g (hR.lt hg) (by rw [o2 g hg];exact Sub.rfl' t)).1).trans (o2 g hg)
theorem zmW:Yc prog 217 197 3 24 (.agg #[.int .u32 0,.int .i64 0,.int .i64 0]):=⟨Tryz.underlying217,by kernel_rfl,rfl,by decide,by decide⟩
theorem Vp(l:List ZA):∀u∈l.flatMap ji,u.oneCell'=true:=by
 intro u hu;obtain⟨m,_,hm⟩:=List.mem_flatMap.1 hu;simp [ji] at hm
 rcases hm with rfl|rfl|rfl<;>rfl
theorem Qu(a:Addr)(w:World):(binOp .eql 111 (.pointer (some a)) (.pointer none)).run prog w=.ok (.bool false) w:=by kernel_rfl
theorem zhK(a b c:Int)(w:World):(Instr.field 197 (.agg #[.int .u32 a,.int .i64 b,.int .i64 c]) 0).run prog w=.ok (.int .u32 a) w:=by kernel_rfl
theorem zhL(a b c:Int)(w:World):(Instr.field 197 (.agg #[.int .u32 a,.int .i64 b,.int .i64 c]) 1).run prog w=.ok (.int .i64 b) w:=by kernel_rfl
theorem zeN(B:Nat)(f:yW)(t:List Nat)(ow:Own)(w:World)(h:zJ B f t ow w):Calls prog 225 #[.pointer (some ⟨B,0,none⟩)] w λe w'=>e=.returned (.bool false)/\w'=w:=by
 obtain⟨aa,bb,ev,hB, -,hR, -⟩:=h;have h0:=Qu ⟨B,0,none⟩ w;obtain⟨a,c,rfl⟩:=hR.src.shape;have e0:=hB.cell;unfold vH at e0;have t0:((f.eras.length:Int)==0)=false:=by simpa using aa
 clear hB hR aa
 go_enter func225,ntmps225
 go_wp2;go_ret
 exact⟨rfl,rfl⟩
theorem zlf {l:List ZA}{m:Nat}(h:l.length=m+1):l[m]?=some (vC l):=by
 unfold vC;rw [List.getLast?_eq_getElem?,h,Nat.add_sub_cancel,N3 (by omega)];rfl
theorem Xc(B:Nat)(f:yW)(t:List Nat)(ow:Own)(w:World)(h:zJ B f t ow w)(hl:f.eras.length<=1073741824):Calls prog 308 #[.pointer (some ⟨B,0,none⟩)] w λe w'=>e=.returned (Yg (vC f.eras))/\Below w.heap.size w w':=by
 obtain⟨ac,bb,ev,hB, -,hR, -⟩:=h;obtain⟨m,hm⟩:∃m,f.eras.length=m+1:=⟨f.eras.length - 1,by have:=List.length_pos_iff.2 ac;omega⟩
 rcases hR.form with⟨-,h, -⟩|⟨g,cap,rfl,hc,hcm⟩
 ·omega
 have hx:=zlf hm
 have aa:∀j,j<3->w.cell? ⟨g,m*3+j,none⟩=(ji (vC f.eras))[j]?:=λj hj=>by
  have h1:=Z3 f.eras m _ hx j hj;rw [← h1,hR.cellAt _ (by omega)]
 obtain⟨⟨ep,ve,st⟩,hn⟩:∃n,vC f.eras=n:=⟨_,rfl⟩;rw [hn] at aa⊢;have c0:w.cell? ⟨g,m*3,none⟩=some (.int .u32 ep):=aa 0 (by omega);have c1:w.cell? ⟨g,m*3+1,none⟩=some (.int .i64 ve):=aa 1 (by omega);have c2:w.cell? ⟨g,m*3+2,none⟩=some (.int .i64 st):=aa 2 (by omega);have hg:=hR.lt (g:=g) rfl;have af:=hB.lt;rw [hm] at hB hc;clear aa hx hn hR ac;unfold Yg;simp only;have ah:(m:Int)+1<=1073741824:=by omega
 have ag:IntKind.i64.wrap (m:Int)=m:=IntWalk.i64_in _ (by omega);have ae:(0:Int)<=m:=by omega
 have ad:(m:Int)<(m:Int)+1:=by omega
 clear hm hl
 go_enter func308,ntmps308
 go_wp2;unfold vH at hB
 refine zd [O 0,O 1,O 2,O 3,O 4,O 5,O 6,O 7,O 8,O 9,O 10,O 11,E 12] (some 12) (λw'=>Blk w' B #[.pointer (some ⟨bb,0,none⟩),.slice (some ⟨g,0,none⟩) (m+1) cap,.int .i64 f.count,.bool f.sw] 284/\w'.cell? ⟨g,m*3,none⟩=some (.int .u32 ep)/\w'.cell? ⟨g,m*3+1,none⟩=some (.int .i64 ve)/\w'.cell? ⟨g,m*3+2,none⟩=some (.int .i64 st)/\True)
  ⟨(hB.alloc _).drew,jI c0 _,jI c1 _,jI c2 _,trivial⟩ ?_
 refine Wq ?_
 refine zc rfl (λK hK=>?_);go_wp2;refine hK.out _ _ (λh=>absurd rfl h) ?_;clear hK K;refine ze ?_;go_wp2;exact bodyPost_ret (v:=.agg #[.int .u32 ep,.int .i64 ve,.int .i64 st]) (by simp [results,Tryz.results308,go_sem]) rfl ⟨rfl,pbx⟩
theorem zhM(B:Nat)(f:yW)(t:List Nat)(ow:Own)(w:World)(h:zJ B f t ow w):Calls prog 227 #[.pointer (some ⟨B,0,none⟩)] w λe w'=>
 ∃ev,e=.returned (.func (.func 322) #[] #[.pointer (some ⟨w.heap.size,0,none⟩)])/\w'=w.alloc (.cells #[ev] 217)/\Row w 197 3 ev f.eras.length (f.eras.flatMap ji)/\∀g,ev.ownBlock=some g->ow g=t:=by
 obtain⟨aa,bb,ev,hB, -,hR, -,ho⟩:=h;obtain⟨a,n,c,rfl⟩:=hR.shape;have e0:=hB.cell;unfold vH at e0;clear hB aa;replace ho:=hid ho
 go_enter func227,ntmps227
 go_wp2_with (go_at_call 278;refine(zfO _ ⟨_,_,_,rfl⟩ _).mono ?_;rintro e w1 ⟨rfl,rfl⟩)
 go_ret
 exact⟨_,rfl,rfl,hR,ho.out⟩
def zjR(l:List ZA)(pb:Nat)(W0:World)(k:Nat)(X:Nat->Prop)(W:World):Prop:=
 Fr (λk=>k=pb) W0 X W/\k<=l.length/\∃pv,Blk W pb #[pv] 217/\Row W 197 3 pv (l.take k).length ((l.take k).flatMap ji)/\(∀g,pv.ownBlock=some g->W0.heap.size<=g/\¬X g)
theorem zjR.stab {l:List ZA}{pb:Nat}{W0:World}{k:Nat}{X X':Nat->Prop}{W W':World}(h1:pb<W0.heap.size)
 (h:zjR l pb W0 k X W) (hm:Mod X W W') (hx:∀k,X' k->X k∨(W.heap.size<=k/\k<W'.heap.size)):zjR l pb W0 k X' W':=by
 obtain⟨aa,hk,pv,kp,kw,hn⟩:=h;refine⟨aa.step hm hx,hk,pv,kp.kept (aa.block hm h1),kw.mod hm (λg hg=>(hn g hg).2),λg hg=>⟨(hn g hg).1,λhX=>?_⟩⟩
 rcases hx g hX with h|h
 ·exact(hn g hg).2 h
 have:=kw.lt hg;omega
theorem zfP(gf:Nat)(lb:Array Value)(l:List ZA)(Rd:Nat->World->Prop)
 (hit:Qr Fence.wide 2 prog gf lb (λx:ZA=> #[Yg x]) (λ(k:Nat) x=>l[k]?=some x) (λk _=>k+1) (λk=>k=l.length) Rd 0)
 (eg:∀args w,(callFunc gf args).run prog w=.ok (.enter gf args) w) (w:World) (hRd:∀W k,Below w.heap.size w W->Rd k W) (hl:l.length<=536870912):
 Calls prog 277 #[.slice none 0 0,.func (.func gf) #[] lb] w λe w'=>
  ∃v',e=.returned v'/\Row w' 197 3 v' l.length (l.flatMap ji)/\Below w.heap.size w w'/\(∀g,v'.ownBlock=some g->w.heap.size<=g):=by
 refine zm func277 rfl ?_;simp only [ntmps277,R8,Nat.reduceAdd,Nat.reduceSub];go_wp2;obtain⟨pb,aa⟩:∃pb,pb=w.heap.size:=⟨_,rfl⟩;obtain⟨W0,ag⟩:∃W0,W0=w.alloc (.cells #[.slice none 0 0] 217):=⟨_,rfl⟩;have a5:W0.heap.size=pb+1:=by rw [ag,aa];simp
 have ao:Below w.heap.size w W0:=by rw [ag];exact pbx
 have kp:Blk W0 pb #[.slice none 0 0] 217:=by rw [ag];exact Blk.new aa
 rw [← ag,← aa];replace hRd:=hid hRd;replace aa:=hid aa;clear ag
 refine yJ (gf:=gf) (lb:=lb) rfl eg hit (λ_=>rfl)
  (λk X W=>zjR l pb W0 k X W) (λc X W=>False)
  (λk X X' W W' h hm hx=>h.stab (by omega) hm hx)
  (λc s X X' W W' h hm hx=>h)
  (λk X W h=>hRd.out W k (ao.trans (h.1.below (by have:=aa.out;omega) (λk hk=>by have:=aa.out;omega))))
  (λk X W h=>⟨h.1.2.size,λk hk=>(h.1.1 k hk).2⟩)
  ⟨Fr.refl _ _,Nat.zero_le _,_,kp,z7 _ _ _,by simp [Value.ownBlock]⟩
  5 197 (λx=> #[.int .u32 x.1,.int .i64 x.2.1,.int .i64 x.2.2]) ?assign ?body ?done ?stop
 case assign=>
  intro l' x W K hK;rw [zW] at hK⊢;unfold Yg at hK⊢
  gi_wp2
  exact hK
 case body=>
  rintro l' k x cb X X1 W1 W h1⟨ae,hk,pv,af,ak,hn⟩ aq az a2 a6 kx a7 _;obtain⟨ep,ve,st⟩:=x;have e0:=kx.cell;simp only at e0;rw [zW];unfold Yg;have lc:=kx.lt;have lp:=af.lt;have ar:=af.cell;have ay:=(N6.1 aq).1;have ad:(l.take k).length+1<=1073741824:=by rw [N7];omega
  replace ad:=hid ad;replace hn:=hid hn
  gi_wp2_with (gi_at_builtin
               obtain⟨a1,W3,aj,ah,ap,ac⟩:=zQ zmW (ak.below ((N2 _ _).alloc (N0 _) (.cells #[.int .u32 (ep:Int),.int .i64 ve,.int .i64 st] 197))) (jP (n:=1) (size:=3) (cap:=1) (Blk.new (w:=W) (cs:=#[.int .u32 (ep:Int),.int .i64 ve,.int .i64 st]) (t:=197) rfl) rfl (N0 1)) (Vp [(ep,ve,st)]) ad.out 217;refine j1 rfl _ _ _ rfl rfl rfl aj ?_;have al:Blk W3 pb #[pv] 217:=(af.alloc _).kept (ap.block pb (by simp;omega) (λe=>by have:=(hn.out pb e.symm).1;omega));have a0:=al.cell;have a3:=al.frozen;have a4:=al.lt;obtain⟨sa,sm,sc,rfl⟩:=ah.shape
               clear aj)
  have hm:Mod (λk=>k=pb∨pv.ownBlock=some k) W (W3.setCell ⟨pb,0,none⟩ (.slice sa sm sc)):=
   (((Mod.refl (λk=>k=pb∨pv.ownBlock=some k) W).thenAlloc _).trans (Mod.grown ap (λk h=>.inr h)) (λ_ _ e=>e) (λ_ _ e=>e)).thenSet (p:=⟨pb,0,none⟩) (.inl rfl) _
  have aw:l.take (k+1)=l.take k++ [(ep,ve,st)]:=by rw [List.take_add_one,aq];rfl
  refine⟨⟨ae.mod hm (λk hk h=>?_),by omega,_,al.set _,?_,?_⟩,jJ.of_mod hm (λk hk hX h=>?_)⟩
  ·rcases h with h|h
   ·exact h
   have:=(hn.out k h).1;omega
  ·rw [aw]
   simp only [N1,U2,U5];refine Row.kept (w:=W3) ah (λg hg=>N4 _ _ _ _ (show g≠pb from λe=>?_));rw [hg] at ac
   rcases ac with h|h
   ·have:=(hn.out _ h.symm).1;omega
   simp at h;omega
  ·intro g hg
   rw [hg] at ac
   rcases ac with h|h
   ·exact hn.out g h.symm
   simp at h
   have:=ae.2.size;exact⟨by omega,λhX=>by have:=(ae.1 g hX).2;omega⟩
  have:=ae.1 k hX
  rcases h with h|h
  ·omega
  exact(hn.out k h).2 hX
 case done=>
  rintro D k X W hD an am⟨ae,hk,pv,af,ak,hn⟩ ai;obtain rfl:k=l.length:=am;rw [List.take_length] at ak;have ar:=af.cell;have ax:=(N5.1 ai).1;have au:Below w.heap.size w W:=ao.trans (ae.below (by have:=aa.out;omega) (λk h=>by have:=aa.out;omega));replace hn:=hid hn;go_wp2;refine zfE (D:=D) (v:=pv) ai (by simp [results,Tryz.results277,go_sem]) ?_;refine⟨pv,rfl,ak.kept (λg hg=>U1 (λe=>(hn.out g hg).2 (by rw [e];exact an))),zM au (by have:=aa.out;omega) _,λg hg=>by have:=(hn.out g hg).1;have:=aa.out;omega⟩
 case stop=>rintro D c X W hD an h;exact h.elim
theorem Qv(ev:Value)(l:List ZA)(cb:Nat)(w:World)(hc:Blk w cb #[ev] 217)(hv:Src w ev 3 l.length (l.flatMap ji))(hl:l.length<=536870912):
 Calls prog 226 #[.func (.func 322) #[] #[.pointer (some ⟨cb,0,none⟩)]] w λe w'=>
  ∃v',e=.returned v'/\Row w' 197 3 v' l.length (l.flatMap ji)/\Below w.heap.size w w'/\(∀g,v'.ownBlock=some g->w.heap.size<=g):=by
 have hs:=zfP 322 #[.pointer (some ⟨cb,0,none⟩)] l (λ_ W=>Blk W cb #[ev] 217/\Src W ev 3 l.length (l.flatMap ji))
  (Xb cb ev l (by omega)) (enters_of func322 (by kernel_rfl) rfl) w (λW k hb=>⟨hc.call hb,hv.below hb⟩) hl
 replace hs:=hid hs;clear hc hv hl
 go_enter func226,ntmps226
 go_wp2_with (go_at_call 277;refine hs.out.mono ?_;rintro e w1 ⟨v',rfl,h1,h2,h3⟩;replace h3:Hid (∀_,_):=h3)
 go_ret
 exact⟨_,rfl,h1,h2,h3.out⟩
theorem zeO(B:Nat)(f:yW)(t:List Nat)(ow:Own)(w:World)(h:zJ B f t ow w)(hl:f.eras.length<=536870912):Calls prog 170 #[.pointer (some ⟨B,0,none⟩)] w λe w'=>
 ∃v',e=.returned v'/\Row w' 197 3 v' f.eras.length (f.eras.flatMap ji)/\Below w.heap.size w w'/\(∀g,v'.ownBlock=some g->w.heap.size<=g):=by
 have hn:=zeN B f t ow w h;have ha:=zhM B f t ow w h;replace hn:=hid hn;replace ha:=hid ha;clear h
 go_enter func170,ntmps170
 go_wp2_with (first
  |(go_at_call 225;refine hn.out.mono ?_;rintro e w1 ⟨rfl,rfl⟩)
  |(go_at_call 227;refine ha.out.mono ?_;rintro e w2 ⟨ev,rfl,rfl,h1,h2⟩;replace h2:Hid (∀_,_):=h2)
  |(go_at_call 226;refine(Qv ev f.eras _ _ (Blk.new rfl) (h1.src.below ((N2 _ _).alloc (N0 _) _)) hl).mono ?_;rintro e w3 ⟨v',rfl,h3,h4,h5⟩;replace h5:Hid (∀_,_):=h5))
 go_ret
 refine⟨_,rfl,h3,pbx,λg hg=>by have:=h5.out g hg;simp at this;omega⟩
def zhN(v:Int)(t:List Nat)(ow:Own)(w:World)(e:Ending)(w':World):Prop:=
 ∃B ow',e=.returned (.tuple #[.pointer (some ⟨B,0,none⟩),.int .i64 0])/\zt t ow w ow' w'/\Below w.heap.size w w'/\zJ B (ZB v) t ow' w'
theorem j2.own {B:Nat}{b:vL}{t:List Nat}{ow ow':Own}{W:World}(h:j2 B b t ow W)(hk:∀k,ow' k=ow k∨∃cs T,Blk W k cs T/\T≠358/\T≠78):j2 B b t ow' W:=by
 obtain⟨aa,lv,mb,hB,hR,hM,o1,o2,o3⟩:=h;refine⟨aa,lv,mb,hB,hR,hM,?_,?_,λg hg=>?_⟩
 ·rcases hk B with h|⟨cs,T,h,h1, -⟩
  ·rw [h,o1]
  have:=hB.symm.trans h;simp at this;exact absurd this.2.symm h1
 ·rcases hk mb with h|⟨cs,T,h,h1, -⟩
  ·rw [h,o2]
  exact absurd rfl (h.ne_map hM)
 rcases hk g with h|⟨cs,T,h, -,h1⟩
 ·rw [h,o3 g hg]
 exact absurd rfl (hR.ne_blk h (Ne.symm h1) hg)
theorem zhO {v:Int}{t:List Nat}{ow ow2:Own}{w W:World}{B rb bb:Nat}(hb:Below w.heap.size w W)(kB:Blk W B #[.pointer (some ⟨bb,0,none⟩),.slice (some ⟨rb,0,none⟩) 1 1,.int .i64 0,.bool false] 284)
 (kr:Blk W rb #[.int .u32 1,.int .i64 v,.int .i64 0] 197) (hk:j2 bb qe (t++ [0]) ow2 W) (h1:w.heap.size<=B) (h2:w.heap.size<=rb) (ho:∀k,k<w.heap.size->ow2 k=ow k):
 zhN v t ow w (.returned (.tuple #[.pointer (some ⟨B,0,none⟩),.int .i64 0])) W:=by
 have aa:B≠rb:=λe=>by subst e;have:=kB.symm.trans kr;simp at this
 refine⟨B,λk=>if k=B∨k=rb then t else ow2 k,rfl,⟨Mod.of_below _ hb,λk hk=>?_⟩,hb,by simp [ZB],bb,.slice (some ⟨rb,0,none⟩) 1 1,kB,?_,?_,by simp,λg hg=>?_⟩
 ·show(if k=B∨k=rb then t else ow2 k)=ow k
  rw [if_neg (by omega),ho k hk]
 ·refine hk.own (λk=>?_)
  by_cases h:k=B∨k=rb
  ·right
   rcases h with rfl|rfl
   ·exact⟨_,_,kB,by decide,by decide⟩
   exact⟨_,_,kr,by decide,by decide⟩
  left;simp [h]
 ·exact⟨rfl,.inr ⟨rb,1,_,rfl,Nat.zero_le _,kr,N0 _,by decide,rfl,rfl⟩⟩
 simp [Value.ownBlock] at hg
 simp [hg]
theorem zjS(v:Int)(hv:known v=true)(t:List Nat)(ow:Own)(w:World):Calls prog 130 #[.int .i64 v] w (zhN v t ow w):=by
 go_enter func130,ntmps130
 go_wp2_with (go_at_call 163;refine(vE _ _).mono ?_;rintro e w1 ⟨rfl,ae⟩;rw [hv])
 go_region_with (go_at_call 172;refine(zlb (t++ [0]) (ow.ext w.heap.size (λ_=>False) []) _).mono ?_;rintro e w2 ⟨bb,af,rfl,ah,aa,ac⟩;have k4:Blk w2 w1.heap.size #[.int .u32 1,.int .i64 v,.int .i64 0] 197:=Blk.call (bkx) aa;have e4:=k4.cell)
 all_goals
  go_wp2;simp only [List.getElem_toArray,List.getElem_cons_succ,List.getElem_cons_zero,Act.put,List.setIfInBounds_toArray,List.set_cons_succ,List.set_cons_zero];have ai:=ae.size;have ag:=aa.size;simp at ag
  have ad:∀k,k<w.heap.size->af k=ow k:=λk hk=>(ah.agree k (by simp;omega)).trans (Own.ext_old hk)
  first
   |exact bodyPost_ret (v:=.tuple #[.pointer (some ⟨w2.heap.size+1,0,none⟩),.int .i64 0]) (by simp [results,Tryz.results130,go_sem]) rfl (zhO (rb:=w2.heap.size) (pbx) (Blk.new (by simp)) ((Blk.new rfl).alloc _) ((j2.loc bb qe (t++ [0])).below ac (pbx)) (by omega) (by omega) ad)
   |exact bodyPost_ret (v:=.tuple #[.pointer (some ⟨w2.heap.size,0,none⟩),.int .i64 0]) (by simp [results,Tryz.results130,go_sem]) rfl (zhO (rb:=w1.heap.size+1) (pbx) (Blk.new rfl) (Blk.alloc (Blk.call (Blk.drew (Blk.new (by simp))) aa) _) ((j2.loc bb qe (t++ [0])).below ac (pbx)) (by omega) (by omega) ad)
def zaC(B:Nat)(f:yW)(t:List Nat)(ow:Own)(w:World)(v:Value)(e:Ending)(w':World):Prop:=
 e=.returned v/\∃ow',zt t ow w ow' w'/\zJ B f t ow' w'
theorem Xd(B:Nat)(f:yW)(t:List Nat)(ow:Own)(v:Int)(sw:Bool)(w:World)(h:zJ B f t ow w)(hl:f.eras.length<=536870912):
 Calls prog 336 #[.pointer (some ⟨B,0,none⟩),.int .i64 v,.bool sw] w (zaC B (xC f v sw) t ow w (.tuple #[])):=by
 have ac:=Xc B f t ow;obtain⟨⟨ep,ve,st⟩,hn⟩:∃n,vC f.eras=n:=⟨_,rfl⟩;rw [hn] at ac;unfold Yg at ac;have h0:=h;obtain⟨au,bb,ev,hB,ak,hR,o1,o2⟩:=h;have ad:(xC f v sw).eras=f.eras++ [((ep+1)% 4294967296,v,f.count)]:=by unfold xC;rw [hn]
 unfold vH at hB;have ax:IntKind.u32.wrap ((ep:Int)+1)=(((ep+1)% 4294967296:Nat):Int):=by rw [IntKind.wrap_u32];omega
 generalize hep:(ep+1)% 4294967296=ep1 at*
 replace hep:=hid hep;replace ad:=hid ad;replace ac:=hid ac;replace hn:=hid hn;replace h0:=hid h0;replace ak:=hid ak;replace o2:=hid o2
 go_enter func336,ntmps336
 refine wp_seq_k λK0 hK0=>?_
 refine zd [O 0,O 1,O 2,O 3,O 4,O 5,O 9,O 10,O 11,O 12,O 13,E 6,O 7,O 8,E 14,E 15,E 16,O 17,O 18,E 19] (some 19) (λw'=>Blk w' B #[.pointer (some ⟨bb,0,none⟩),ev,.int .i64 f.count,.bool f.sw] 284/\True) ⟨hB.drew,trivial⟩ ?_
 refine Wb ?_
 refine zc rfl (λK hK=>?_)
 go_wp2_with (go_at_call 308;refine(ac.out _ ((zJ.loc B f t).below h0.out (Below.drew (N2 _ _))) (by omega)).mono ?_;rintro e w1 ⟨rfl,aq⟩)
 have k1:=hB.drew.call aq;refine hK.out _ _ (λ_=>⟨k1,trivial⟩) ?_;clear hK;have ao:=zhK ep ve st
 refine Wb ?_
 clear ao;refine zc rfl (λK hK=>?_);go_wp2;refine hK.out _ _ (λ_=>⟨k1,trivial⟩) ?_;clear hK;refine zc rfl (λK hK=>?_);go_wp2;refine hK.out _ _ (λ_=>⟨k1.alloc _,trivial⟩) ?_;clear hK;refine zc rfl (λK hK=>?_);have al:Below w.heap.size w w1:=pbx;have af:Below w.heap.size w (w1.alloc (.cells #[.int .u32 (ep1:Int),.int .i64 v,.int .i64 f.count] 197)):=pbx;obtain⟨aw,W3,ah,ag,ai,ae⟩:=zQ zmW (hR.below af) (jP (n:=1) (size:=3) (cap:=1) (Blk.new (w:=w1) (cs:=#[.int .u32 (ep1:Int),.int .i64 v,.int .i64 f.count]) (t:=197) rfl) rfl (N0 1)) (Vp [(ep1,v,f.count)]) (by omega) 217;refine zw rfl _ _ _ rfl rfl rfl ah ?_;unfold wpList;have aa:∀g,ev.ownBlock=some g->g≠B/\g<w.heap.size:=λg hg=>⟨hR.ne_blk hB (by decide) hg,hR.lt hg⟩
 have k3:=(k1.alloc (.cells #[.int .u32 (ep1:Int),.int .i64 v,.int .i64 f.count] 197)).kept (ai.block B (by have:=k1.lt;simp;omega) (λe=>(aa B e.symm).1 rfl));refine hK.out _ _ (λ_=>⟨k3,trivial⟩) ?_;clear hK ah;obtain⟨sa,sm,sc,rfl⟩:=ag.shape
 refine Wb ?_
 have e3:=k3.cell;have f3:=k3.frozen;have l3:=k3.lt;replace aa:=hid aa;refine zc rfl (λK hK=>?_);go_wp2;refine hK.out _ _ (λh=>absurd rfl h) ?_;clear hK e3 f3;have k4:=k3.set (o:=1) (.slice sa sm sc);have e4:=k4.cell;have f4:=k4.frozen;refine ze ?_;refine hK0 _ _ ?_;go_wp2;go_end0
 have aj:=hB.lt;have ar:=k1.lt
 have am:∀g,(Value.slice sa sm sc).ownBlock=some g->(ev.ownBlock=some g∨g=w1.heap.size+1):=λg hg=>by
  rw [hg] at ae
  rcases ae with h|h
  ·exact .inl h.symm
  right;simpa using h
 have an:∀g,(Value.slice sa sm sc).ownBlock=some g->g≠B:=λg hg=>by
  rcases am g hg with h|h
  ·exact(aa.out g h).1
  omega
 have ap:∀k,k<w.heap.size->k≠B->ev.ownBlock≠some k->((W3.setCell ⟨B,1,none⟩ (.slice sa sm sc)).setCell ⟨B,3,none⟩ (.bool sw)).heap[k]?=w.heap[k]?:=λk hk h1 h2=>
  (N4 _ _ _ _ h1).trans ((N4 _ _ _ _ h1).trans ((ai.block k (Nat.lt_of_lt_of_le hk af.size) (λe=>h2 e.symm)).trans (af.block k hk)))
 refine⟨rfl,ow.ext w.heap.size (λk=>(Value.slice sa sm sc).ownBlock=some k) t,⟨?_,λk hk=>Own.ext_old hk⟩,⟨by rw [ad.out];simp,bb,.slice sa sm sc,k4.set (o:=3) (.bool sw),?_,?_,?_,?_⟩⟩
 ·exact(((Mod.of_below (λk=>Sub t (ow k)) af).trans (Mod.grown (X:=λk=>ev.ownBlock=some k) ai (λk h=>h)) (λ_ _ e=>e) (λk _ e=>by rw [o2.out k e];exact Sub.rfl' t)).thenSet (p:=⟨B,1,none⟩) (by simp only [o1];exact Sub.rfl' t) _).thenSet (p:=⟨B,3,none⟩) (by simp only [o1];exact Sub.rfl' t) _
 ·refine(j2.loc bb f.book (t++ [0])) _ _ _ _ ak.out ?_ (λk hk hs=>⟨Own.ext_old hk,ap k hk (λe=>?_) (λe=>?_)⟩)
  ·have:=af.size;have:=ai.size;simp;omega
  ·subst e;rw [o1] at hs;exact zU t 0 hs
  rw [o2.out k e] at hs;exact zU t 0 hs
 ·rw [ad.out,N1,U2,U5]
  exact Row.kept (w:=W3) ag (λg hg=>(N4 _ _ _ _ (an g hg)).trans (N4 _ _ _ _ (an g hg)))
 ·rw [Own.ext_old aj,o1]
 intro g hg
 rcases am g hg with h|h
 ·rw [Own.ext_old (aa.out g h).2,o2.out g h]
 rw [Own.ext_new (by have:=al.size;omega) hg]
