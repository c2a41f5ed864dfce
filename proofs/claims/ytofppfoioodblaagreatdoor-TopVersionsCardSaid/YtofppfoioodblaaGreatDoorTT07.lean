/- PARTS OF THE PROOF. -/
import Derived.Deep.RegionLaw
import Derived.IntWalk
import Derived.Test.YtofppfoioodblaaGreatDoorTT04
import Derived.Test.YtofppfoioodblaaGreatDoorTT06
set_option maxRecDepth 8000
set_option maxHeartbeats 4000000
open Go.Proofs.Tryz
namespace Go.Proofs.YtofppfoioodblaaGreatDoor
section
open Go Go.RowKit Go.Shelf Go.Extern.Stop Go.Stop Go.Extern
attribute [local go_sem] Oper.semAt_some zv zm
theorem QQ(tk:List Nat)(lv:Value)(mb i c:Nat)(hi:i<tk.length):(jN tk lv mb).setIfInBounds i (.int .u32 c)=jN (tk.set i c) lv mb:=by
 simp [jN,List.set_append_left,hi,List.map_set]
theorem Y5(tk:List Nat)(lv lv':Value)(mb:Nat)(h:tk.length=16):(jN tk lv mb).setIfInBounds 16 lv'=jN tk lv' mb:=by
 have h1:((tk.map λn:Nat=>Value.int .u32 (n:Int))).length=16:=by simpa using h
 unfold jN
 generalize(tk.map λn:Nat=>Value.int .u32 (n:Int))=l at h1
 simp [List.set_append_right,h1]
def zaR(B mb NB:Nat)(lv:Value)(tk:List Nat)(L:List zy)(WS:List (MId×zy))(W0:World)(acc:List zy)(nv:Value)(s:List (MId×zy)×Option zy)(X:Nat->Prop)(W:World):Prop:=
 acc++X3 s=L/\zaQ s=WS/\zcd s.1/\(∀x,s.2=some x->zB x=true)/\
  Fr (λk=>k=B∨k=mb∨k=NB) W0 X W/\
  Blk W B (jN (xK tk acc) lv mb) 358/\jc W mb idV (s.1.map λp=>(p.1,vo p.2))/\Blk W NB #[nv] 42/\
  Row W 78 3 nv acc.length (acc.flatMap zh)/\(∀g,nv.ownBlock=some g->W0.heap.size<=g/\¬X g)
theorem zaR.stab {B mb NB:Nat}{lv:Value}{tk:List Nat}{L:List zy}{WS:List (MId×zy)}{W0:World}{acc:List zy}{nv:Value}{s:List (MId×zy)×Option zy}{X X':Nat->Prop}{W W':World}(hB:B<W0.heap.size)(hm:mb<W0.heap.size)(hN:NB<W0.heap.size)
 (h:zaR B mb NB lv tk L WS W0 acc nv s X W) (hmod:Mod X W W') (hx:∀k,X' k->X k∨(W.heap.size<=k/\k<W'.heap.size)):zaR B mb NB lv tk L WS W0 acc nv s X' W':=by
 obtain⟨h1,h2,h3,h4,hfr,hB',hM,hNB,hR,hn⟩:=h;refine⟨h1,h2,h3,h4,hfr.step hmod hx,hB'.kept (hfr.block hmod hB),hM.kept (hfr.block hmod hm),hNB.kept (hfr.block hmod hN),hR.mod hmod (λg hg=>(hn g hg).2),λg hg=>⟨(hn g hg).1,λhX=>?_⟩⟩
 rcases hx g hX with h|h
 ·exact(hn g hg).2 h
 ·have:=hR.lt hg;omega
def zit(B:Nat)(t:List Nat)(ow:Own)(w:World)(R:vw×List zy×Int)(e:Ending)(w':World):Prop:=
 ∃v ow',e=.returned (.tuple #[v,.int .i64 R.2.2])/\zq t ow w ow' w'/\jR B R.1 t ow' w'/\
    Row w' 78 3 v R.2.1.length (R.2.1.flatMap zh)/\(∀g,v.ownBlock=some g->w.heap.size<=g/\ow' g=[])
theorem ziu(B:Nat)(b:vw)(t:List Nat)(_ht:t≠ [])(ow:Own)(m:zy)(w:World)(hb:jR B b t ow w)(hl:b.log.length+b.ws.length<=536870912):Calls prog 355 #[.pointer (some ⟨B,0,none⟩),vo m] w (zit B t ow w (xo b m)):=by
 obtain⟨⟨i,c⟩,d⟩:=m;have hb0:=hb;obtain⟨hok,lv,mb,hB,hR,hM,o1,o2,o3⟩:=hb;obtain⟨R,hR0⟩:∃R,xo b ((i,c),d)=R:=⟨_,rfl⟩;rw [hR0]
 cases hr:zB ((i,c),d)
 ·have hp:R=(b,[],100):=by rw [← hR0];unfold xo;rw [if_pos hr]
  clear hR0;unfold vo;refine zl func355 rfl ?_;simp only [ntmps355,R8,Nat.reduceAdd,Nat.reduceSub]
  go_wp2_with (go_at_call 91;refine(vH _ _ _ _).mono ?_;rintro e w1 ⟨rfl,hb1⟩)
  have hBw:Below w.heap.size w w1:=pbx;rw [hp];exact jI (v:=.tuple #[.slice none 0 0,.int .i64 100]) (by simp [results,Tryz.results355,go_sem]) ⟨_,ow,rfl,zq.of_below t ow hBw,(jR.loc B b t).below hb0 hBw,z7 _ _ _,by simp [Value.ownBlock]⟩
 ·by_cases hc:c=ZG b i
  ·have hp:R=({tk:=xK b.tk (zU b.ws.length b.ws ((i,c),d)).2,log:=b.log++(zU b.ws.length b.ws ((i,c),d)).2,ws:=(zU b.ws.length b.ws ((i,c),d)).1},(zU b.ws.length b.ws ((i,c),d)).2,0):=by rw [← hR0];unfold xo;rw [if_neg (by simp [hr]),if_neg (by simp;exact hc)]
   have t1:((c:Int) !=(ZG b i:Nat))=false:=bne_eq_false_iff_eq.2 (by rw [← hc]);clear hR0 hc;replace hp:=hid hp;unfold vo;refine zl func355 rfl ?_;simp only [ntmps355,R8,Nat.reduceAdd,Nat.reduceSub]
   go_wp2_with (first
    |(go_at_call 91;refine(vH _ _ _ _).mono ?_;rintro e w1 ⟨rfl,hb1⟩
      have hBw:Below w.heap.size w w1:=pbx;have hb2:=(jR.loc B b t).below hb0 hBw;have kb:Blk w1 w.heap.size #[.pointer (some ⟨B,0,none⟩)] 279:=Blk.call (bkx) hb1;have k0:Blk w1 (w.heap.size+1) #[.int .i64 i,.int .u32 c,.string (bs d)] 78:=Blk.call (bkx) hb1;have c0:=k0.cell;have cb0:=kb.cell;have lb0:=kb.lt
      have l0:=k0.lt)
    |(go_at_call 361;refine(zdE B b t ow _ _ hb2).mono ?_;rintro e w2 ⟨rfl,rfl⟩)
    |(go_at_call 363;refine(zjP B ((i,c),d) _).mono ?_;rintro e w3 ⟨rfl,rfl⟩))
   obtain⟨NB,hNB⟩:∃NB,NB=w2.heap.size:=⟨_,rfl⟩;obtain⟨W0,hW0⟩:∃W0,W0=((w2.alloc (.cells #[.slice none 0 0] 42)).alloc (.cells #[.pointer (some ⟨B,0,none⟩)] 279)).alloc (.cells #[.int .i64 i,.int .u32 c,.string (bs d)] 78):=⟨_,rfl⟩;have hbb:Blk W0 (NB+1) #[.pointer (some ⟨B,0,none⟩)] 279:=by rw [hW0,hNB];exact(Blk.new (by simp)).alloc _
   have hbm:Blk W0 (NB+1+1) #[.int .i64 i,.int .u32 c,.string (bs d)] 78:=by rw [hW0,hNB];exact Blk.new (by simp)
   have hnb:Blk W0 NB #[.slice none 0 0] 42:=by rw [hW0,hNB];exact((Blk.new rfl).alloc _).alloc _
   have hB0:Below w.heap.size w W0:=by rw [hW0];exact pbx
   have hsz:W0.heap.size=NB+3:=by rw [hW0,hNB];simp
   rw [← hNB,← hW0];have lB:B<W0.heap.size:=Nat.lt_of_lt_of_le hB.lt hB0.size;have lm:mb<W0.heap.size:=Nat.lt_of_lt_of_le hM.lt hB0.size;have lw:w.heap.size<NB:=by rw [hNB];exact kb.lt
   have lwB:B<w.heap.size:=hB.lt;have lwm:mb<w.heap.size:=hM.lt;have hBm:B≠mb:=hB.ne_map hM;have qb:Blk W0 w.heap.size #[.pointer (some ⟨B,0,none⟩)] 279:=by rw [hW0];exact((kb.alloc _).alloc _).alloc _
   have hB0':=hB.kept (hB0.block B hB.lt);have hM0':=hM.kept (hB0.block mb hM.lt);have hR0':=hR.kept (λg hg=>hB0.block g (hR.lt hg));clear hW0 hNB c0 cb0 lb0 l0 kb k0 hb2 hb1
   refine Vo (gf:=366) (lb:=#[.pointer (some ⟨NB+1+1,0,none⟩),.pointer (some ⟨NB+1,0,none⟩)]) rfl (enters_of func366 (by kernel_rfl) rfl)
    (zio (NB+1+1) (NB+1) B mb ((i,c),d) b.ws hok.keys hr) (λ_=>rfl)
    (λs X W=>∃acc nv,zaR B mb NB lv b.tk (zU b.ws.length b.ws ((i,c),d)).2 (zU b.ws.length b.ws ((i,c),d)).1 W0 acc nv s X W)
    (λ_ _ _=>False)
    (λs X X' W W' h hm hx=>by obtain⟨acc,nv,h⟩:=h;exact⟨acc,nv,h.stab lB lm (by omega) hm hx⟩)
    (λ_ _ _ _ _ _ h _ _=>h)
    (λs X W h=>by
     obtain⟨acc,nv, -, -, -, -,hfr,hB',hM', -⟩:=h
     exact⟨hbm.mod hfr.2 (by omega),((hbb.mod hfr.2 (by omega)).cell 0).trans rfl,(hB'.cell 17).trans (xy _ _ _ (by rw [xj];exact hok.sixteen)),hM'⟩)
    ⟨[],.slice none 0 0,rfl,rfl,hok.keys,λx hx=>by cases hx;exact hr,Fr.refl _ _,hB0',hM0',hnb,z7 _ _ _,by simp [Value.ownBlock]⟩
    (λs x a' X W=>∃acc nv cb,a'={tmps:=#[.pointer (some ⟨B,0,none⟩),.agg #[.int .i64 i,.int .u32 c,.string (bs d)],.pointer (some ⟨w.heap.size,0,none⟩),.pointer (some ⟨w.heap.size+1,0,none⟩),.slice none 0 0,.int .i64 0,.int .u32 (ZG b i:Nat),.pointer (some ⟨NB,0,none⟩),.pointer (some ⟨cb,0,none⟩),.pointer (some ⟨B,0,none⟩),.bool false,.agg #[.int .i64 i,.int .u32 c,.string (bs d)],.bool true,.bool false,.pointer (some ⟨B,0,none⟩),.pointer (some ⟨w.heap.size+1,0,none⟩),.pointer (some ⟨w.heap.size+1,0,none⟩),.int .i64 i,.int .u32 (ZG b i:Nat),.pointer (some ⟨w.heap.size+1,0,none⟩),.pointer (some ⟨w.heap.size+1,1,none⟩),.int .u32 c,.int .u32 (ZG b i:Nat),.bool false,undef,undef,undef,.pointer (some ⟨B,0,none⟩),.agg #[.int .i64 i,.int .u32 c,.string (bs d)],.func (.func 366) #[] #[.pointer (some ⟨NB+1+1,0,none⟩),.pointer (some ⟨NB+1,0,none⟩)],.agg #[.int .i64 x.1.1,.int .u32 x.1.2,.string (bs x.2)],undef,undef,undef,undef,undef,undef,undef,undef,undef,undef,undef,undef,undef,undef,undef,undef,undef,undef,undef,undef,undef,undef,undef,undef,undef,undef,undef,undef,undef,undef],defers:=[] } /\s.2=some x/\W0.heap.size<=cb/\¬X cb/\Blk W cb #[.int .i64 x.1.1,.int .u32 x.1.2,.string (bs x.2)] 78/\(∀g,nv.ownBlock=some g->g≠cb)/\
     zaR B mb NB lv b.tk (zU b.ws.length b.ws ((i,c),d)).2 (zU b.ws.length b.ws ((i,c),d)).1 W0 acc nv s X W)
    ?ax ?assign ?body ?done ?stop
   case ax=>
    rintro s x a' u X X' W W'⟨acc,nv,cb,ha',h1,h2,hXB,hbk,hne,h⟩ hm hX;exact⟨acc,nv,cb,ha',h1,h2,λh=>(hX cb h).elim hXB (λh'=>by have:=hbk.lt;omega),hbk.mod hm hXB,hne,h.stab lB lm (by omega) hm hX⟩
   case assign=>
    rintro l' s x X W K⟨acc,nv,h⟩⟨h1,h2,h3⟩ hK;have hfr:=h.2.2.2.2.1;have hRw:=h.2.2.2.2.2.2.2.2.1;have hXW:¬X W.heap.size:=hfr.next;unfold vo
    gi_wp2
    exact hK _ _ ⟨acc,nv,W.heap.size,rfl,h1,hfr.2.size,hXW,Blk.new rfl,λg hg=>by have:=hRw.lt hg;omega,h.stab lB lm (by omega) (Mod.alloc _ _ _) (λk hk=>.inl hk)⟩ (jB.of_mod (Mod.alloc (λ_=>False) _ _) (λ_ _ _ h=>h))
   case body=>
    rintro l' s x a' X W⟨acc,nv,cb,rfl,h1,h2,hXB,hbk,hne,h⟩ hXl _;obtain⟨g1,g2,g3,g4,hfr,kB,kM,kN,kR,kn⟩:=h;have hrx:=g4 x h1;obtain⟨⟨xi,xc⟩,xd⟩:=x
    obtain⟨xk,rfl,hxk⟩:∃k:Nat,xi=k/\k<16:=by
     simp [zB] at hrx
     exact⟨xi.toNat,by omega,by omega⟩
    have hxi:(xk:Int)<16:=by omega
    have e0:=hbk.cell;have eb:=(qb.mod hfr.2 (by omega)).cell;have eB:=(kB.cell 17).trans (xy _ _ _ (by rw [xj];exact hok.sixteen));have hMd:=kM.kept (w':=W.drew) rfl;obtain⟨o,hdel,kM2⟩:=hMd.delete QM Tryz.underlying138 #[138,76] 0 rfl ((xk:Int),xc);unfold idV at hdel;simp only at e0
    gi_wp2
    refine vP 6 (by rfl) (λ⟨_,_,h⟩=>h) (by kernel_rfl) (by kernel_rfl) ?_;simp only [List.take_succ_cons,List.take_zero,List.drop_succ_cons,List.drop_zero]
    repeat still_step
    try refine wpStill_nil ?_
    refine vt rfl _ _ _ _ rfl rfl rfl hdel ?_;unfold wpList;obtain⟨W1,hW1⟩:∃W1,W1=W.drew.putObj mb o:=⟨_,rfl⟩;have hcm:cb≠mb:=by have:=hfr.2.size;omega
    have hcB:cb≠B:=by have:=hfr.2.size;omega
    have hcN:cb≠NB:=by have:=hfr.2.size;omega
    have hNB':NB≠B:=by omega
    have hwB':w.heap.size≠B:=by omega
    have hwN:w.heap.size≠NB:=by omega
    have kB1:Blk W1 B (jN (xK b.tk acc) lv mb) 358:=by rw [hW1];exact(kB.drew).putObj hBm o
    have kN1:Blk W1 NB #[nv] 42:=by rw [hW1];exact(kN.drew).putObj (by omega) o
    have kc1:Blk W1 cb #[.int .i64 xk,.int .u32 xc,.string (bs xd)] 78:=by rw [hW1];exact(hbk.drew).putObj hcm o
    have kb1:Blk W1 w.heap.size #[.pointer (some ⟨B,0,none⟩)] 279:=by rw [hW1];exact((qb.mod hfr.2 (by omega)).drew).putObj (by omega) o
    have kM1:jc W1 mb idV ((del ((xk:Int),xc) s.1).map λp=>(p.1,vo p.2)):=by rw [hW1,← QL];exact kM2
    have kR1:Row W1 78 3 nv acc.length (acc.flatMap zh):=by rw [hW1];exact(show Row W.drew _ _ _ _ _ from kR).kept (λg hg=>U1 (by have:=(kn g hg).1;omega))
    have hm1:Mod (λk=>k=B∨k=mb∨k=NB) W W1:=by rw [hW1];exact((Mod.refl _ W).thenDrew).thenPut (.inr (.inl rfl)) o
    rw [← hW1];clear e0 eb eB hdel kM2 hMd hW1;have e0:=kc1.cell;have eb:=kb1.cell;have f0:=kB1.frozen xk;have cz:=(kB1.cell xk).trans (q9 _ _ _ xk (by rw [xj];exact hok.sixteen) hxk)
    gi_wp2
    refine vP 10 (by rfl) (λ⟨_,_,h⟩=>h) (by kernel_rfl) (by kernel_rfl) ?_;simp only [List.take_succ_cons,List.take_zero,List.drop_succ_cons,List.drop_zero]
    repeat still_step
    try refine wpStill_nil ?_
    go_wp2;obtain⟨W2,hW2⟩:∃W2,W2=(W1.setCell ⟨B,xk,none⟩ (.int .u32 xc)).drew:=⟨_,rfl⟩
    have kB2:Blk W2 B (jN (xK b.tk (acc++ [(((xk:Int),xc),xd)])) lv mb) 358:=by
     rw [hW2,zeE,Int.toNat_natCast,← QQ _ _ _ _ _ (by rw [xj];have:=hok.sixteen;omega)];exact(kB1.set _).drew
    have kN2:Blk W2 NB #[nv] 42:=by rw [hW2];exact(kN1.other hNB' _).drew
    have kc2:Blk W2 cb #[.int .i64 xk,.int .u32 xc,.string (bs xd)] 78:=by rw [hW2];exact(kc1.other hcB _).drew
    have kM2:jc W2 mb idV ((del ((xk:Int),xc) s.1).map λp=>(p.1,vo p.2)):=by rw [hW2];exact kM1.kept (N4 _ _ _ _ (show mb≠B from Ne.symm hBm))
    have kR2:Row W2 78 3 nv acc.length (acc.flatMap zh):=by rw [hW2];exact kR1.kept (λg hg=>N4 _ _ _ _ (show g≠B by have:=(kn g hg).1;omega))
    have hm2:Mod (λk=>k=B∨k=mb∨k=NB) W W2:=by rw [hW2];exact(hm1.thenSet (p:=⟨B,xk,none⟩) (.inl rfl) _).thenDrew
    rw [← hW2];clear e0 eb f0 cz kB1 kN1 kc1 kb1 kM1 kR1 hm1 hW2;have e0:=kc2.cell;have en:=kN2.cell;have fn:=kN2.frozen;have lN:=kN2.lt;have lc:=kc2.lt
    have hlen:acc.length+1<=1073741824:=by
     have h5:=congrArg List.length g1;have h6:=ZW b.ws.length b.ws ((i,c),d);simp only [N1] at h5;omega
    have hne2:∀g,nv.ownBlock=some g->g≠NB:=λg hg=>by have:=(kn g hg).1;omega
    replace hlen:=hid hlen;replace hne2:=hid hne2
    gi_wp2_with (gi_at_builtin
                 obtain⟨nv',W3,hrun,hrow,hgr,hown⟩:=zT zcc (kR2.below ((N2 _ _).alloc (N0 _) (.cells #[.int .i64 (xk:Int),.int .u32 (xc:Int),.string (bs xd)] 78))) (jM (n:=1) (size:=3) (Blk.new (w:=W2) (cs:=#[.int .i64 (xk:Int),.int .u32 (xc:Int),.string (bs xd)]) (t:=78) rfl) rfl (N0 1)) (jq [(((xk:Int),xc),xd)]) hlen.out 42;refine jQ rfl _ _ _ rfl rfl rfl hrun ?_;have kN3:Blk W3 NB #[nv] 42:=(kN2.alloc _).kept (hgr.block NB (by simp;omega) (λe=>hne2.out NB e.symm rfl));have en3:=kN3.cell;have fn3:=kN3.frozen;have lN3:=kN3.lt;obtain⟨sa,sm,sc,rfl⟩:=hrow.shape
                 clear hrun)
    have hws:=g3.del ((xk:Int),xc);have hstep:=zis (ws:=s.1) (x:=(((xk:Int),xc),xd)) g3;have hs:s=(s.1,some (((xk:Int),xc),xd)):=by rw [← h1]
    have hm4:Mod (λk=>k=B∨k=mb∨k=NB∨nv.ownBlock=some k) W (W3.setCell ⟨NB,0,none⟩ (.slice sa sm sc)):=
     (((hm2.mono (λk _ h=>by rcases h with h|h|h;exact .inl h;exact .inr (.inl h);exact .inr (.inr (.inl h)))).thenAlloc _).trans (Mod.grown hgr (λk h=>.inr (.inr (.inr h)))) (λ_ _ e=>e) (λ_ _ e=>e)).thenSet (p:=⟨NB,0,none⟩) (.inr (.inr (.inl rfl))) _
    have hgb:∀k,k<W2.heap.size->nv.ownBlock≠some k->(W3.setCell ⟨NB,0,none⟩ (.slice sa sm sc)).heap[k]?=W2.heap[k]?∨k=NB:=λk hk hne=>by
     by_cases hkN:k=NB
     ·exact .inr hkN
     ·exact .inl ((N4 _ _ _ _ hkN).trans ((hgr.block k (by simp;omega) (λe=>hne e.symm)).trans (U4 _ _ _ hk)))
    refine⟨⟨acc++ [(((xk:Int),xc),xd)],.slice sa sm sc,?_,?_,hws,λy hy=>(zeD (x:=(((xk:Int),xc),xd)) g3 hy).2,hfr.mod hm4 (λk hk h=>?_),?_,?_,kN3.set _,?_,?_⟩,jB.of_mod hm4 (λk hk hX h=>?_)⟩
    ·rw [← g1,hs,hstep.1];simp;rfl
    ·rw [← g2,hs,hstep.2];rfl
    ·rcases h with h|h|h|h
     ·exact .inl h
     ·exact .inr (.inl h)
     ·exact .inr (.inr h)
     ·have:=(kn k h).1;omega
    ·exact kB2.kept ((hgb B kB2.lt (λe=>by have:=(kn B e).1;omega)).resolve_right (by omega))
    ·exact kM2.kept ((hgb mb kM2.lt (λe=>by have:=(kn mb e).1;omega)).resolve_right (by omega))
    ·simp only [N1,U2,U5]
     refine Row.kept (w:=W3) hrow (λg hg=>N4 _ _ _ _ (show g≠NB from λe=>?_));subst e;rw [hg] at hown
     rcases hown with h|h
     ·have:=(kn _ h.symm).1;omega
     ·simp at h;omega
    ·intro g hg
     rw [hg] at hown
     rcases hown with h|h
     ·exact kn g h.symm
     ·have:=hm2.size
      have:=hfr.2.size;simp at h
      exact⟨by omega,λhX=>by have:=(hfr.1 g hX).2;omega⟩
    ·have:=hfr.1 k hX
     rcases h with h|h|h|h
     ·omega
     ·omega
     ·omega
     ·exact(kn k h).2 hX
   case done=>
    rintro D s X W hD hXD hfin⟨acc,nv,g1,g2,g3,g4,hfr,kB,kM,kN,kR,kn⟩ hdef;obtain⟨wsz,os⟩:=s;have hos:os=none:=hfin;subst hos;have hacc:acc=(zU b.ws.length b.ws ((i,c),d)).2:=by rw [← g1];simp [X3]
    have hwsz:wsz=(zU b.ws.length b.ws ((i,c),d)).1:=g2;have eb:=(qb.mod hfr.2 (by omega)).cell;have eB:=(kB.cell 16).trans (Jp _ _ _ (by rw [xj];exact hok.sixteen));have en:=kN.cell;have fB:=kB.frozen 16;clear g1 g2 hfin g3 g4;replace hacc:=hid hacc;replace hwsz:=hid hwsz;go_wp2
    have hRw:Row W.drew 78 3 lv b.log.length (b.log.flatMap zh):=Row.kept (w:=W) (hR0'.mod hfr.2 (λg hg h=>by
     have:=hR.lt hg
     rcases h with h|h|h
     ·exact hR.ne_blk hB (by decide) hg h
     ·exact hR.ne_map hM hg h
     ·omega)) (λ_ _=>rfl)
    obtain⟨lv',W5,hrun,hrow,hgr,hown⟩:=zT zcc hRw (Src.kept (w:=W) kR.src (λ_ _ _ _=>rfl)) (jq acc) (by rw [hacc.out];have:=ZW b.ws.length b.ws ((i,c),d);omega) 42;have hlvB:∀k,lv.ownBlock=some k->k<w.heap.size/\k≠B/\k≠mb:=λk hk=>⟨hR.lt hk,hR.ne_blk hB (by decide) hk,hR.ne_map hM hk⟩
    have hk5:∀k,k<W.heap.size->lv.ownBlock≠some k->W5.heap[k]?=W.heap[k]?:=λk hk hne=>hgr.block k hk (λe=>hne e.symm)
    have kB5:=kB.kept (hk5 B kB.lt (λe=>(hlvB B e).2.1 rfl));have kN5:=kN.kept (hk5 NB kN.lt (λe=>by have:=(hlvB NB e).1;omega));have hdef5:=(hk5 D (N5.1 hdef).1 (λe=>by have:=(hlvB D e).1;omega)).trans hdef;have kM5:=kM.kept (hk5 mb kM.lt (λe=>(hlvB mb e).2.2 rfl));have kR5:=kR.kept (λg hg=>hk5 g (kR.lt hg) (λe=>by have:=(hlvB g e).1;have:=(kn g hg).1;omega));obtain⟨sa,sm,sc,rfl⟩:=hrow.shape;have eB5:=(kB5.cell 16).trans (Jp _ _ _ (by rw [xj];exact hok.sixteen));have fB5:=kB5.frozen 16;have lB5:=kB5.lt;have en5:=kN5.cell;have hNB':NB≠B:=by omega
    have eb5:=(((qb.mod hfr.2 (by omega)).kept (hk5 w.heap.size (qb.mod hfr.2 (by omega)).lt (λe=>by have:=(hlvB w.heap.size e).1;omega))).cell);replace hlvB:=hid hlvB;replace hk5:=hid hk5;clear fB
    apply ZN (Wp:=λw'=>w'=W5.setCell ⟨B,16,none⟩ (.slice sa sm sc))
    case h=>
     go_region_law (refine XH _ _ _ rfl rfl rfl hrun ?_)
     all_goals exact ZM rfl
    case h2=>
    rintro w6 rfl;clear hrun eB en eb eb5;go_wp2
    replace kB5:Blk (W5.setCell ⟨B,16,none⟩ (.slice sa sm sc)) B (jN (xK b.tk acc) (.slice sa sm sc) mb) 358:=by
     rw [← Y5 (lv:=lv) _ _ _ (by rw [xj];exact hok.sixteen)];exact kB5.set _
    have hBD:B≠D:=by omega
    have hDs:=(N5.1 hdef).1;have hlD:∀k,lv.ownBlock=some k->k≠D:=λk hk=>by have:=(hlvB.out k hk).1;omega
    have hb6:∀k,k<W.heap.size->lv.ownBlock≠some k->k≠B->k≠D->((W5.setCell ⟨B,16,none⟩ (.slice sa sm sc)).putObj D (.deferred none)).heap[k]?=W.heap[k]?:=λk hk h1 h2 h3=>
     (U1 h3).trans ((N4 _ _ _ _ h2).trans (hk5.out k hk h1))
    have hmod:Mod (λk=>k=B∨k=mb∨k=NB∨lv.ownBlock=some k∨k=D) W0 ((W5.setCell ⟨B,16,none⟩ (.slice sa sm sc)).putObj D (.deferred none)):=
     (((hfr.2.mono (λk _ h=>by rcases h with h|h|h;exact .inl h;exact .inr (.inl h);exact .inr (.inr (.inl h)))).trans (Mod.grown (W:=W) (W':=W5) (row:=lv.ownBlock) ⟨hgr.os,hgr.tape,hgr.output,hgr.size,hgr.block⟩ (λk h=>.inr (.inr (.inr (.inl h))))) (λ_ _ e=>e) (λ_ _ e=>e)).thenSet (p:=⟨B,16,none⟩) (.inl rfl) _).thenPut (.inr (.inr (.inr (.inr rfl)))) _
    refine z8 (D:=D) (v:=.tuple #[nv,.int .i64 0]) ((N4 _ _ _ _ (Ne.symm hBD)).trans hdef5) (by simp [results,Tryz.results355,go_sem]) ?_
    have hg6:∀g,(Value.slice sa sm sc).ownBlock=some g->(lv.ownBlock=some g∨g=W.heap.size):=λg hg=>by
     rw [hg] at hown
     rcases hown with h|h
     ·exact .inl h.symm
     ·right;simpa using h
    have hB6:Mod (λk=>Sub t (ow k)) w ((W5.setCell ⟨B,16,none⟩ (.slice sa sm sc)).putObj D (.deferred none)):=
     (Mod.of_below _ hB0).trans hmod (λ_ _ e=>e) (λk hk h=>by
      rcases h with h|h|h|h|h
      ·rw [h,o1];exact Sub.rfl' t
      ·rw [h,o2];exact Sub.rfl' t
      ·omega
      ·rw [o3 k h];exact Sub.rfl' t
      ·omega)
    rw [hp.out];refine⟨nv,ow.ext w.heap.size (λk=>(Value.slice sa sm sc).ownBlock=some k) t,rfl,⟨hB6,λk hk=>Own.ext_old hk⟩,⟨hok.row hr _,.slice sa sm sc,mb,?_,?_,?_,?_,?_,?_⟩,?_,?_⟩
    ·rw [← hacc.out];exact kB5.putObj hBD _
    ·simp only [N1,U5]
     rw [← hacc.out];refine Row.kept (w:=W5) hrow (λg hg=>(U1 (λe=>?_)).trans (N4 _ _ _ _ (show g≠B from λe=>?_)))
     ·rcases hg6 g hg with h|h
      ·exact hlD g h e
      ·omega
     ·rcases hg6 g hg with h|h
      ·exact(hlvB.out g h).2.1 e
      ·omega
    ·rw [← hwsz.out]
     exact kM.kept (hb6 mb kM.lt (λe=>(hlvB.out mb e).2.2 rfl) (Ne.symm hBm) (by omega))
    ·rw [Own.ext_old lwB,o1]
    ·rw [Own.ext_old lwm,o2]
    ·intro g hg
     rcases hg6 g hg with h|h
     ·rw [Own.ext_old (hlvB.out g h).1,o3 g h]
     ·rw [Own.ext_new (by omega) hg]
    ·rw [← hacc.out]
     refine kR.kept (λg hg=>hb6 g (kR.lt hg) (λe=>?_) (λe=>?_) (λe=>?_))
     ·have:=(kn g hg).1;have:=(hlvB.out g e).1;omega
     ·have:=(kn g hg).1;omega
     ·subst e;exact(kn _ hg).2 hXD
    ·intro g hg
     have h1:=(kn g hg).1;refine⟨by omega,Own.ext_none (by omega) (λh=>?_)⟩
     rcases hg6 g h with h|h
     ·have:=(hlvB.out g h).1;omega
     ·have:=kR.lt hg;omega
   case stop=>rintro D c' X W hD hXD h;exact h.elim
  ·have hp:R=((if zgi b (i,c)then b else {b with ws:=put (i,c) ((i,c),d) b.ws}),[],0):=by rw [← hR0];unfold xo;rw [if_neg (by simp [hr]),if_pos hc]
   have t1:((c:Int) !=(ZG b i:Nat))=true:=bne_iff_ne.2 (λe=>hc (Int.ofNat.inj e));clear hR0;replace hp:=hid hp;unfold vo;refine zl func355 rfl ?_;simp only [ntmps355,R8,Nat.reduceAdd,Nat.reduceSub]
   go_wp2_with (first
    |(go_at_call 91;refine(vH _ _ _ _).mono ?_;rintro e w1 ⟨rfl,hb1⟩
      have hBw:Below w.heap.size w w1:=pbx;have hb2:=(jR.loc B b t).below hb0 hBw;have kb:Blk w1 w.heap.size #[.pointer (some ⟨B,0,none⟩)] 279:=Blk.call (bkx) hb1;have k0:Blk w1 (w.heap.size+1) #[.int .i64 i,.int .u32 c,.string (bs d)] 78:=Blk.call (bkx) hb1;have c0:=k0.cell;have cb0:=kb.cell;have lb0:=kb.lt
      have l0:=k0.lt)
    |(go_at_call 361;refine(zdE B b t ow _ _ hb2).mono ?_;rintro e w2 ⟨rfl,rfl⟩)
    |(go_at_call 362;refine(zil B b t ow ((i,c),d) hr _ hb2).mono ?_;rintro e w3 ⟨rfl,ow3,hs3,hb3⟩;replace hb3:Hid _:=hb3))
   refine jI (v:=.tuple #[.slice none 0 0,.int .i64 0]) (by simp [results,Tryz.results355,go_sem]) ?_;rw [hp.out];exact⟨_,ow3,rfl,(zq.of_below t ow hBw).trans hs3,hb3.out,z7 _ _ _,by simp [Value.ownBlock]⟩
end
section
open Go Go.RowKit
def Js(e:qZ):Value:=.agg #[.int .u32 e.1,.int .i64 e.2.1,.int .i64 e.2.2]
def jd(e:qZ):List Value:=[.int .u32 e.1,.int .i64 e.2.1,.int .i64 e.2.2]
end
section
open Go Go.RowKit Go.Shelf Go.Extern.Stop Go.Stop Go.Extern
attribute [local go_sem] Oper.semAt_some zv zm
theorem zeF(v:Value)(hv:∃a n c,v=.slice a n c)(w:World):Calls prog 278 #[v] w λe w'=>
 e=.returned (.func (.func 322) #[] #[.pointer (some ⟨w.heap.size,0,none⟩)])/\w'=w.alloc (.cells #[v] 217):=by
 obtain⟨a,n,c,rfl⟩:=hv
 go_enter func278,ntmps278
 go_wp2;go_ret
 exact⟨rfl,rfl⟩
theorem Zs(l:List qZ)(k:Nat)(x:qZ)(h:l[k]?=some x)(j:Nat)(hj:j<3):(l.flatMap jd)[k*3+j]?=(jd x)[j]?:=by
 induction l generalizing k with
 |nil=>simp at h
 |cons y l ih=>
  cases k with
  |zero=>
   simp at h;subst h
   rw [List.flatMap_cons,Nat.zero_mul,Nat.zero_add,U8 (by simp [jd];omega)]
  |succ k=>
   simp at h
   have:=ih k h;rw [List.flatMap_cons,U6 (by simp [jd];omega)];rw [← this]
   congr 1
   simp [jd];omega
theorem Vy(cb:Nat)(v:Value)(l:List qZ)(hlen:l.length<=1073741824):
 XG Fence.wide 2 prog 322 #[.pointer (some ⟨cb,0,none⟩)] (λx:qZ=> #[Js x])
  (λ(k:Nat) x=>l[k]?=some x) (λk _=>k+1) (λk=>k=l.length)
  (λ_ W=>Blk W cb #[v] 217/\Src W v 3 l.length (l.flatMap jd)) 0:=by
 intro lp J Jx W hJ hJx hRd hY h0;obtain⟨r0,r1⟩:=hRd _ _ _ h0;have e0:=r0.cell;have hF:Fence.wide.fn 322:=trivial;have hro:Fence.wide.round=none:=rfl
 rcases r1.2 with⟨rfl,hn⟩|⟨b,off,cap,rfl,hc, -⟩
 ·obtain rfl:l=[]:=N9 hn
  clear r0 r1;refine callsIn_of_wp func322 rfl hF ?_ hro;simp only [ntmps322,R8,Nat.reduceAdd,Nat.reduceSub]
  gi_wp2
  gi_loopw [7] (λp wr=>p=.int .i64 0/\wr=W) (λp _=>0)
  case atStart=>exact⟨rfl,rfl⟩
  case round=>
   obtain⟨rfl,rfl⟩:=hrel
   gi_wp2
   go_end0
   exact⟨⟨_,rfl⟩,.inl ⟨0,_,rfl,h0⟩⟩
 ·clear r0 r1
  refine callsIn_of_wp func322 rfl hF ?_ hro;simp only [ntmps322,R8,Nat.reduceAdd,Nat.reduceSub]
  gi_wp2
  gi_loopw [7] (λp wr=>∃(k:Nat)(X:Nat->Prop),p=.int .i64 (k:Int)/\k<=l.length/\J k X wr) (λp _=>l.length - (intOf p).toNat)
  case atStart=>exact⟨0,_,rfl,Nat.zero_le _,h0⟩
  case round=>
   obtain⟨k,X,rfl,hk,hJs⟩:=hrel;clear e0
   by_cases hlt:k<l.length
   ·obtain⟨x,hx⟩:∃x,l[k]?=some x:=⟨_,N3 hlt⟩
    obtain⟨-,r1⟩:=hRd _ _ _ hJs
    rcases r1.2 with⟨h, -⟩|⟨b',off',cap',h, -,hr⟩
    ·cases h
    ·cases h
     have hcell:∀j,j<3->wr.cell? ⟨b,off+(k*3+j),none⟩=(jd x)[j]?:=λj hj=>by
      have h1:=Zs l k x hx j hj
      cases hu:(jd x)[j]? with
      |none=>simp [jd] at hu;omega
      |some u=>exact hr _ u (h1.trans hu)
     have c0:wr.cell? ⟨b,off+k*3,none⟩=(jd x)[0]?:=hcell 0 (by omega);have c1:wr.cell? ⟨b,off+k*3+1,none⟩=(jd x)[1]?:=hcell 1 (by omega);have c2:wr.cell? ⟨b,off+k*3+2,none⟩=(jd x)[2]?:=hcell 2 (by omega);have hY':=hY k x _ _ (hJ.alloc (.cells (jd x).toArray 197) hJs) hx;obtain⟨ep,ve,st⟩:=x;simp only [jd] at c0 c1 c2 hY';simp only [List.getElem?_cons_zero,List.getElem?_cons_succ] at c0 c1 c2;clear hcell hr r1;obtain⟨fn,tmps,assign,body,hy,hR⟩:=hY';unfold Js at hy
     gi_wp2
     refine hR.mono ?_;rintro e W'(⟨rfl,hJ', -⟩|⟨rfl,hx'⟩)
     ·clear c0 c1 c2 hR hy
      gi_wp2
      go_roundw
      case rel=>exact⟨k+1,_,by go_num,by omega,hJ'⟩
      case measure=>simp [intOf];omega
     ·gi_wp2
      refine bodyPost_ret (results_none rfl _ _ _) rfl ?_;exact⟨⟨_,rfl⟩,.inr ⟨_,hx'⟩⟩
   ·obtain rfl:k=l.length:=by omega
    gi_wp2
    go_end0
    exact⟨⟨_,rfl⟩,.inl ⟨l.length,X,rfl,hJs⟩⟩
end
open Go Go.RowKit Go.Shelf Go.Extern.Stop Go.Stop Go.Extern Go.Lib
attribute [local go_sem] Oper.semAt_some zv zm
def vp(bb:Nat)(ev:Value)(f:yJ):Array Value:=#[.pointer (some ⟨bb,0,none⟩),ev,.int .i64 f.count,.bool f.sw]
def zH(B:Nat)(f:yJ)(t:List Nat)(ow:Own)(W:World):Prop:=
 f.eras≠ [] /\∃bb ev,Blk W B (vp bb ev f) 284/\jR bb f.book (t++ [0]) ow W/\Row W 197 3 ev f.eras.length (f.eras.flatMap jd)/\ow B=t/\∀g,ev.ownBlock=some g->ow g=t
theorem zH.loc(B:Nat)(f:yJ)(t:List Nat):yK t (zH B f t):=by
 rintro ow ow' W W'⟨hne,bb,ev,hB,hbk,hR,o1,o2⟩ hs hk;have kB:=hk B hB.lt (by rw [o1];exact Sub.rfl' t);refine⟨hne,bb,ev,hB.kept kB.2,?_,hR.kept (λg hg=>(hk g (hR.lt hg) (by rw [o2 g hg];exact Sub.rfl' t)).2),kB.1.trans o1,λg hg=>?_⟩
 ·exact(jR.loc bb f.book (t++ [0])) ow ow' W W' hbk hs (λk hk1 hk2=>hk k hk1 ((Sub.child t 0).trans hk2))
 ·exact((hk g (hR.lt hg) (by rw [o2 g hg];exact Sub.rfl' t)).1).trans (o2 g hg)
theorem zlt:Yc prog 217 197 3 24 (.agg #[.int .u32 0,.int .i64 0,.int .i64 0]):=⟨Tryz.underlying217,by kernel_rfl,rfl,by decide,by decide⟩
theorem YJ(l:List qZ):∀u∈l.flatMap jd,u.oneCell'=true:=by
 intro u hu;obtain⟨m,_,hm⟩:=List.mem_flatMap.1 hu;simp [jd] at hm
 rcases hm with rfl|rfl|rfl<;>rfl
theorem XI(a:Addr)(w:World):(binOp .eql 111 (.pointer (some a)) (.pointer none)).run prog w=.ok (.bool false) w:=by kernel_rfl
theorem zgr(a b c:Int)(w:World):(Instr.field 197 (.agg #[.int .u32 a,.int .i64 b,.int .i64 c]) 0).run prog w=.ok (.int .u32 a) w:=by kernel_rfl
theorem zgs(a b c:Int)(w:World):(Instr.field 197 (.agg #[.int .u32 a,.int .i64 b,.int .i64 c]) 1).run prog w=.ok (.int .i64 b) w:=by kernel_rfl
theorem zdI(B:Nat)(f:yJ)(t:List Nat)(ow:Own)(w:World)(h:zH B f t ow w):Calls prog 225 #[.pointer (some ⟨B,0,none⟩)] w λe w'=>e=.returned (.bool false)/\w'=w:=by
 obtain⟨hne,bb,ev,hB, -,hR, -⟩:=h;have h0:=XI ⟨B,0,none⟩ w;obtain⟨a,c,rfl⟩:=hR.src.shape;have e0:=hB.cell;unfold vp at e0;have t0:((f.eras.length:Int)==0)=false:=by simpa using hne
 clear hB hR hne
 go_enter func225,ntmps225
 go_wp2;go_ret
 exact⟨rfl,rfl⟩
theorem zjR {l:List qZ}{m:Nat}(h:l.length=m+1):l[m]?=some (vk l):=by
 unfold vk;rw [List.getLast?_eq_getElem?,h,Nat.add_sub_cancel,N3 (by omega)];rfl
theorem Vz(B:Nat)(f:yJ)(t:List Nat)(ow:Own)(w:World)(h:zH B f t ow w)(hl:f.eras.length<=1073741824):Calls prog 308 #[.pointer (some ⟨B,0,none⟩)] w λe w'=>e=.returned (Js (vk f.eras))/\Below w.heap.size w w':=by
 obtain⟨hne,bb,ev,hB, -,hR, -⟩:=h;obtain⟨m,hm⟩:∃m,f.eras.length=m+1:=⟨f.eras.length - 1,by have:=List.length_pos_iff.2 hne;omega⟩
 rcases hR.form with⟨-,h, -⟩|⟨g,cap,rfl,hc,hcm⟩
 ·omega
 have hx:=zjR hm
 have hcell:∀j,j<3->w.cell? ⟨g,m*3+j,none⟩=(jd (vk f.eras))[j]?:=λj hj=>by
  have h1:=Zs f.eras m _ hx j hj;rw [← h1,hR.cellAt _ (by omega)]
 obtain⟨⟨ep,ve,st⟩,hn⟩:∃n,vk f.eras=n:=⟨_,rfl⟩;rw [hn] at hcell⊢;have c0:w.cell? ⟨g,m*3,none⟩=some (.int .u32 ep):=hcell 0 (by omega);have c1:w.cell? ⟨g,m*3+1,none⟩=some (.int .i64 ve):=hcell 1 (by omega);have c2:w.cell? ⟨g,m*3+2,none⟩=some (.int .i64 st):=hcell 2 (by omega);have hg:=hR.lt (g:=g) rfl;have hBl:=hB.lt;rw [hm] at hB hc;clear hcell hx hn hR hne;unfold Js;simp only;have hmi:(m:Int)+1<=1073741824:=by omega
 have hwr:IntKind.i64.wrap (m:Int)=m:=IntWalk.i64_in _ (by omega);have hmi0:(0:Int)<=m:=by omega
 have hmi1:(m:Int)<(m:Int)+1:=by omega
 clear hm hl
 go_enter func308,ntmps308
 go_wp2;unfold vp at hB
 refine zd [O 0,O 1,O 2,O 3,O 4,O 5,O 6,O 7,O 8,O 9,O 10,O 11,E 12] (some 12) (λw'=>Blk w' B #[.pointer (some ⟨bb,0,none⟩),.slice (some ⟨g,0,none⟩) (m+1) cap,.int .i64 f.count,.bool f.sw] 284/\w'.cell? ⟨g,m*3,none⟩=some (.int .u32 ep)/\w'.cell? ⟨g,m*3+1,none⟩=some (.int .i64 ve)/\w'.cell? ⟨g,m*3+2,none⟩=some (.int .i64 st)/\True) (by kernel_rfl) (by kernel_rfl)
  ⟨(hB.alloc _).drew,jz c0 _,jz c1 _,jz c2 _,trivial⟩ ?_
 (repeat (refine za (v:=?_) rfl rfl (λw' h=>?_) (λK k=>?_);rotate_left;obtain⟨f1,f2,f3,f4,_⟩:=h;have e1:=f1.cell;go_simp;(try with_reducible rfl);go_simp;refine k _ ?_;clear k K))
 refine zc rfl (λK hK=>?_);go_wp2;refine hK.out _ _ (λh=>absurd rfl h) ?_;clear hK K;refine ze ?_;go_wp2;exact bodyPost_ret (v:=.agg #[.int .u32 ep,.int .i64 ve,.int .i64 st]) (by simp [results,Tryz.results308,go_sem]) rfl ⟨rfl,pbx⟩
theorem zgt(B:Nat)(f:yJ)(t:List Nat)(ow:Own)(w:World)(h:zH B f t ow w):Calls prog 227 #[.pointer (some ⟨B,0,none⟩)] w λe w'=>
 ∃ev,e=.returned (.func (.func 322) #[] #[.pointer (some ⟨w.heap.size,0,none⟩)])/\w'=w.alloc (.cells #[ev] 217)/\Row w 197 3 ev f.eras.length (f.eras.flatMap jd)/\∀g,ev.ownBlock=some g->ow g=t:=by
 obtain⟨hne,bb,ev,hB, -,hR, -,ho⟩:=h;obtain⟨a,n,c,rfl⟩:=hR.shape;have e0:=hB.cell;unfold vp at e0;clear hB hne;replace ho:=hid ho
 go_enter func227,ntmps227
 go_wp2_with (go_at_call 278;refine(zeF _ ⟨_,_,_,rfl⟩ _).mono ?_;rintro e w1 ⟨rfl,rfl⟩)
 go_ret
 exact⟨_,rfl,rfl,hR,ho.out⟩
