/- PARTS OF THE PROOF. -/
import Derived.Lib.SliceRun
import Derived.Test.YtofppfoioodblaaGreatDoorTC08
set_option maxRecDepth 8000
set_option maxHeartbeats 4000000
open Go.Proofs.Tryz
namespace Go.Proofs.YtofppfoioodblaaGreatDoor
section
open Go Go.RowKit Go.Shelf Go.Extern.Stop Go.Stop Go.Extern
attribute [local go_sem] Oper.semAt_some zB zp
theorem zea(a b:Option Addr)(c c':Nat)(ty:TypeId)(w:World):(Builtin.append_ #[42,42] ty #[.slice a 0 c,.slice b 0 c']).run prog w=.ok (.slice a 0 c) w:=by
 obtain⟨i,hi,ad,aa,ac⟩:=info_parts zbD.info
 cases a<;>cases b<;>simp [Builtin.append_,run_underlying zbD.under,sizeOf,typeInfo,hi,Builtin.lenOf,Builtin.firstCells,loadCells,loadCellsFrom,storeCells]
theorem Yy(g:Nat):∀(vs:List Value)(o:Nat)(w:World)(cur:Array Value)(e:TypeId),w.heap[g]?=some (.cells cur e (0,0))->
 (∃cur',(w.setCells g o vs).heap[g]?=some (.cells cur' e (0,0))/\cur'.size=cur.size)/\Mod (λk=>k=g) w (w.setCells g o vs)
 | [],_,w,cur,e,h=>⟨⟨cur,h,rfl⟩,Mod.refl _ _⟩
 |v::vs,o,w,cur,e,h=>by
  have h1:Blk (w.setCell ⟨g,o,none⟩ v) g (cur.setIfInBounds o v) e:=Blk.set (w:=w) h v;obtain⟨⟨cur',h2,h3⟩,h4⟩:=Yy g vs (o+1) _ _ e h1;refine⟨⟨cur',h2,by simpa using h3⟩,(Mod.setCell (X:=λk=>k=g) w ⟨g,o,none⟩ v rfl).trans h4 (λ_ _ e=>e) (λ_ _ e=>e)⟩
theorem zgy {w:World}{g n cap:Nat}{cur:Array Value}(hn:0<n)(h:w.heap[g]?=some (.cells cur 78 (0,0)))(hs:n*3<=cur.size)(ty:TypeId):
 (Builtin.clear_ #[42] ty #[.slice (some ⟨g,0,none⟩) n cap]).run prog w=.ok (.tuple #[]) (w.setCells g 0 (Builtin.zeroCells #[.int .i64 0,.int .u32 0,.string ⟨#[]⟩] n).toList):=by
 have hb:Blk w g cur 78:=h;have hv:∀w:World,(zeroValue 78).run prog w=.ok (.agg #[.int .i64 0,.int .u32 0,.string ⟨#[]⟩]) w:=λw=>by kernel_rfl
 have aa:(Builtin.zeroCells #[.int .i64 0,.int .u32 0,.string ⟨#[]⟩] n).toList.length=n*3:=by simp [Builtin.zeroCells]
 have ac:=run_storeCells_cells (P:=prog) g 0 (Builtin.zeroCells #[.int .i64 0,.int .u32 0,.string ⟨#[]⟩] n).toList 0 w
  (λj hj=>by rw [hb.cell];simp;rw [aa] at hj;omega) (λj hj=>hb.frozen _) (λu hu=>by
   simp [Builtin.zeroCells] at hu
   obtain⟨i,hi,rfl⟩:=hu;have:i % 3=0∨i % 3=1∨i % 3=2:=by omega
   rcases this with h|h|h<;>rw [h] <;>rfl)
 obtain⟨m,rfl⟩:∃m,n=m+1:=⟨n - 1,by omega⟩;simp only [Nat.add_zero] at ac;simp [Builtin.clear_,run_underlying zbD.under,hv,Value.cells,ac]
theorem JT(v:Value)(hv:∃a n c,v=.slice a n c/\n<=c/\c<=9223372036854775807)(w:World):Calls prog 313 #[v,.int .i64 0,.int .i64 0] w λe w'=>e=.returned v/\w'=w:=by
 obtain⟨a,n,c,rfl,h1,h2⟩:=hv;have y0:(n:Int)<=c:=by omega
 have y1:(c:Int)<=9223372036854775807:=by omega
 go_enter func313,ntmps313
 go_wp2;go_ret
 exact⟨rfl,rfl⟩
def ziE(g cap:Nat)(w:World)(e:Ending)(w':World):Prop:=
 e=.returned (.slice (some ⟨g,0,none⟩) 0 cap)/\Mod (λk=>k=g) w w'/\Row w' 78 3 (.slice (some ⟨g,0,none⟩) 0 cap) 0 []
theorem zgz(g n cap:Nat)(xs:List Value)(hn:0<n)(w:World)(h:Row w 78 3 (.slice (some ⟨g,0,none⟩) n cap) n xs):Calls prog 313 #[.slice (some ⟨g,0,none⟩) n cap,.int .i64 0,.int .i64 n] w (ziE g cap w):=by
 rcases h.2 with⟨h0, -⟩|⟨g',cap',cur,h0, -,hg,hc,hm,hs, -⟩
 ·cases h0
 cases h0
 unfold maxLen at hm;obtain⟨zs,ag⟩:∃zs,(Builtin.zeroCells #[.int .i64 0,.int .u32 0,.string ⟨#[]⟩] n).toList=zs:=⟨_,rfl⟩
 have ai:∀ty,(Builtin.clear_ #[42] ty #[.slice (some ⟨g,0,none⟩) n cap]).run prog w.drew=.ok (.tuple #[]) (w.drew.setCells g 0 zs):=λty=>by
  rw [← ag];exact zgy (w:=w.drew) hn hg (by rw [hs];exact Nat.mul_le_mul_right 3 hc) ty
 obtain⟨⟨ae,ah,af⟩,ac⟩:=Yy g zs 0 w.drew cur 78 hg
 have aa:ziE g cap w (.returned (.slice (some ⟨g,0,none⟩) 0 cap)) (w.drew.setCells g 0 zs):=
  ⟨rfl,(Mod.drew _ w).trans ac (λ_ _ e=>e) (λ_ _ e=>e),rfl,.inr ⟨g,cap,ae,rfl,Nat.zero_le _,ah,Nat.zero_le _,by unfold maxLen;omega,by rw [af,hs],by simp⟩⟩
 have y0:(n:Int)<=cap:=by omega
 have y1:(cap:Int)<=9223372036854775807:=by omega
 have y2:(0:Int)<n:=by omega
 have y3:((0:Int)==(n:Int))=false:=by simp;omega
 have ad:=zea
 generalize hW:w.drew.setCells g 0 zs=W at*
 replace hW:=hid hW;replace aa:=hid aa;replace ad:=hid ad;clear h hg hs ah af ac ag
 by_cases hcn:cap=n
 ·subst hcn
  go_enter func313,ntmps313
  go_wp2_with fail
  refine zd [O 0,O 1,O 2,O 3,O 4,O 5,E 6,O 7] none (λ_=>True) trivial ?_
  refine Wk ?_
  refine zc rfl (λK hK=>?_);refine zw rfl _ _ _ rfl rfl rfl (ad.out _ _ _ _ _ _) ?_;unfold wpList;refine hK.out _ _ (λ_=>trivial) ?_;clear hK K
  refine Wk ?_
  refine ze ?_;go_wp2;go_ret
  exact aa.out
 
 go_enter func313,ntmps313
 go_wp2_with fail
 refine zd [O 0,O 1,O 2,O 3,O 4,O 5,E 6,O 7] none (λ_=>True) trivial ?_
 refine Wk ?_
 refine zc rfl (λK hK=>?_);refine zw rfl _ _ _ rfl rfl rfl (ad.out _ _ _ _ _ _) ?_;unfold wpList;refine hK.out _ _ (λ_=>trivial) ?_;clear hK K
 refine Wk ?_
 refine ze ?_;go_wp2;go_ret
 exact aa.out
theorem zgA(v:Value)(hv:∃a n c,v=.slice a n c)(w:World):Calls prog 312 #[v] w λe w'=>
 e=.returned (.func (.func 174) #[] #[.pointer (some ⟨w.heap.size,0,none⟩)])/\w'=w.alloc (.cells #[v] 42):=by
 obtain⟨a,n,c,rfl⟩:=hv
 go_enter func312,ntmps312
 go_wp2_with (go_at_call 133;refine(QN _ ⟨_,_,_,rfl⟩ _).mono ?_;rintro e w1 ⟨rfl,rfl⟩)
 go_ret
 exact⟨rfl,rfl⟩
def zlA(B:Nat)(R:zP×List zA)(t:List Nat)(ow:Own)(w:World)(e:Ending)(w':World):Prop:=
 ∃v ow',e=.returned v/\zt t ow w ow' w'/\zK B R.1 t ow' w'/\Row w' 78 3 v R.2.length (R.2.flatMap zg)/\(∀g,v.ownBlock=some g->w.heap.size<=g/\ow' g=[])
theorem zlB {P:Program}{id:Nat}{c:Code}{Q:Exit->Act->World->Prop}{a:Act}{w:World}(Fa:Nat->World->Prop)(hx:∀a' W,Q .normal a' W->Q (.exit id) a' W)
 (h:c.wp P (λe a' W=>(e=.normal∨e=.exit id)/\∃D,a'={a with defers:={target:=.collected D,args:=#[] } ::a.defers} /\Fa D W) a w)
 (h2:∀D W,Fa D W->Q .normal {a with defers:={target:=.collected D,args:=#[] } ::a.defers} W):c.wp P Q a w:=
 wp_mono h (λe a' W ⟨he,D,ha,hf⟩=>by
  subst ha
  rcases he with rfl|rfl
  ·exact h2 D W hf
  exact hx _ _ (h2 D W hf))
def zgB(l:List zA)(pb:Nat)(W0:World)(k:Nat)(X:Nat->Prop)(W:World):Prop:=
 Fr (λk=>k=pb) W0 X W/\k<=l.length/\∃pv,Blk W pb #[pv] 42/\Row W 78 3 pv (l.take k).length ((l.take k).flatMap zg)/\(∀g,pv.ownBlock=some g->W0.heap.size<=g/\¬X g)
theorem zgB.stab {l:List zA}{pb:Nat}{W0:World}{k:Nat}{X X':Nat->Prop}{W W':World}(h1:pb<W0.heap.size)
 (h:zgB l pb W0 k X W) (hm:Mod X W W') (hx:∀k,X' k->X k∨(W.heap.size<=k/\k<W'.heap.size)):zgB l pb W0 k X' W':=by
 obtain⟨aa,hk,pv,kp,kw,hn⟩:=h;refine⟨aa.step hm hx,hk,pv,kp.kept (aa.block hm h1),kw.mod hm (λg hg=>(hn g hg).2),λg hg=>⟨(hn g hg).1,λhX=>?_⟩⟩
 rcases hx g hX with h|h
 ·exact(hn g hg).2 h
 have:=kw.lt hg;omega
theorem XT(B:Nat)(L:zP)(t:List Nat)(_ht:t≠ [])(ow:Own)(w:World)(h:zK B L t ow w)(hl:L.held.length+L.log.length<=536870912):
 Calls prog 264 #[.pointer (some ⟨B,0,none⟩)] w (zlA B (yK L) t ow w):=by
 obtain⟨hk,fb,hv,lv,a1,cl,br,bu,o1,o2,o3⟩:=h;unfold j3 at a1;have ag:∀g,hv.ownBlock=some g->g≠B/\g<w.heap.size:=λg hg=>⟨br.ne_blk a1 (by decide) hg,br.lt hg⟩
 have ah:∀g,lv.ownBlock=some g->g≠B/\g<w.heap.size:=λg hg=>⟨bu.ne_blk a1 (by decide) hg,bu.lt hg⟩
 have ae:∀g,lv.ownBlock=some g->hv.ownBlock≠some g:=λg h1 h2=>by have:=(o3 g h1).symm.trans (o2 g h2);simp at this
 obtain⟨ha,hn,hc,rfl⟩:=br.shape;obtain⟨la,ln,lc,rfl⟩:=bu.shape
 obtain⟨xs,rest,a3,da,b4,co,a4⟩:∃xs rest:List zA,yK L=({L with held:=rest,log:=L.log++xs},xs)/\xs.length<=L.held.length/\(L.blk=true->xs=[])/\(L.blk=false->xs=L.held)/\
  ∀W',Row W' 78 3 (.slice ha hn hc) L.held.length (L.held.flatMap zg)->Calls prog 313 #[.slice ha hn hc,.int .i64 0,.int .i64 (xs.length:Nat)] W' λe w'=>∃b2,e=.returned b2/\Mod (λk=>(Value.slice ha hn hc).ownBlock=some k) W' w'/\Row w' 78 3 b2 rest.length (rest.flatMap zg)/\b2.ownBlock=(Value.slice ha hn hc).ownBlock:=by
  unfold yK
  cases hb:L.blk
  ·refine⟨L.held,[],by simp,N0 _,λh=>(by cases h),λ_=>rfl,λW' hR=>?_⟩
   rcases hR.form with⟨h,h0, -⟩|⟨g,cap,h,h1,h2⟩
   ·cases h
    rw [h0];refine(JT _ ⟨none,0,0,rfl,by omega,by omega⟩ W').mono ?_;rintro e w1⟨rfl,rfl⟩;exact⟨_,rfl,Mod.refl _ _,z7 _ _ _,rfl⟩
   cases h
   by_cases h0:L.held.length=0
   ·unfold maxLen at h2
    have cx:L.held=[]:=N9 h0;rw [cx] at hR⊢;refine(JT _ ⟨_,_,_,rfl,by simp,by omega⟩ W').mono ?_;rintro e w1⟨rfl,rfl⟩;exact⟨_,rfl,Mod.refl _ _,hR,rfl⟩
   refine(zgz g _ hc _ (by omega) W' hR).mono ?_
   rintro e w1⟨rfl,h3,h4⟩;exact⟨_,rfl,h3.mono (λk _ e=>by subst e;rfl),h4,rfl⟩
  refine⟨[],L.held,by rw [if_pos rfl,List.append_nil,← hb],Nat.zero_le _,λ_=>rfl,λh=>(by cases h),λW' hR=>?_⟩
  refine(JT _ ⟨ha,hn,hc,rfl,?_⟩ W').mono ?_
  ·rcases hR.form with⟨h, -⟩|⟨g,cap,h,h1,h2⟩
   ·cases h;omega
   cases h;unfold maxLen at h2;omega
  rintro e w1⟨rfl,rfl⟩
  exact⟨_,rfl,Mod.refl _ _,hR,rfl⟩
 rw [a3];have cj:L.log.length+xs.length<=1073741824:=by omega
 have e0:=a1.cell;have ct:=a1.lt;replace cl:=hid cl;replace ag:=hid ag;replace ah:=hid ah;replace ae:=hid ae;replace o2:=hid o2;replace o3:=hid o3;replace hk:=hid hk;replace a4:=hid a4;replace a3:=hid a3;replace b4:=hid b4;replace co:=hid co;refine zm func264 rfl ?_;simp only [ntmps264,R8,Nat.reduceAdd,Nat.reduceSub];go_wp2;go_step3;go_wp2;go_step3;go_wp2_with fail
 refine(zgA _ ⟨_,_,_,rfl⟩ _).mono ?_;rintro e w1⟨rfl,rfl⟩;go_wp2_with fail
 obtain⟨W0,a9⟩:∃W0,W0=(((w.alloc (.cells #[.pointer (some ⟨B,0,none⟩)] 54)).alloc (.cells #[.slice none 0 0] 42)).alloc (.cells #[.slice ha hn hc] 42)):=⟨_,rfl⟩;have dj:W0.heap.size=w.heap.size+3:=by rw [a9];simp
 have cf:Below w.heap.size w W0:=by rw [a9];exact pbx
 have bo:Blk W0 w.heap.size #[.pointer (some ⟨B,0,none⟩)] 54:=by rw [a9];exact bkx
 have b7:Blk W0 (w.heap.size+1) #[.slice none 0 0] 42:=by rw [a9];exact bkx
 have b5:Blk W0 (w.heap.size+1+1) #[.slice ha hn hc] 42:=by rw [a9];exact bkx
 have cn:=br.below cf;rw [← a9];clear a9 e0;refine zlB (id:=0) (λD W=>∃(k:Nat)(X:Nat->Prop),w.heap.size+3<=D/\X D/\L.held.take k=xs/\zgB L.held (w.heap.size+1) W0 k X W/\W.heap[D]?=some (.deferred (some []))) (λ_ _ h=>h) ?_ ?_
 ·refine yJ (gf:=174) (lb:=#[.pointer (some ⟨w.heap.size+1+1,0,none⟩)]) rfl (enters_of func174 (by kernel_rfl) rfl)
   (V7 (w.heap.size+1+1) (.slice ha hn hc) L.held (by omega)) (λ_=>rfl)
   (λk X W=>zgB L.held (w.heap.size+1) W0 k X W/\(L.blk=true->k=0))
   (λc X W=>c=.exit 0/\L.blk=true/\zgB L.held (w.heap.size+1) W0 0 X W)
   (λk X X' W W' h hm hx=>⟨h.1.stab (by omega) hm hx,h.2⟩)
   (λc s X X' W W' h hm hx=>⟨h.1,h.2.1,h.2.2.stab (by omega) hm hx⟩)
   (λk X W h=>⟨b5.mod h.1.1.2 (by omega),(cn.mod h.1.1.2 (λg hg e=>by have:=(ag.out g hg).2;omega)).src⟩)
   (λk X W h=>⟨by have:=h.1.1.2.size;omega,λk hk=>(h.1.1.1 k hk).2⟩)
   ⟨⟨Fr.refl _ _,Nat.zero_le _,_,b7,z7 _ _ _,by simp [Value.ownBlock]⟩,λ_=>rfl⟩
   4 78 (λx=> #[.int .i64 x.1.1,.int .u32 x.1.2,.string (bs x.2)]) ?assign ?body ?done ?stop
  case assign=>
   intro l' x W K hK;rw [zW] at hK⊢;unfold y7 at hK⊢
   gi_wp2
   exact hK
  case body=>
   rintro l' k x cb X X1 W1 W h1⟨⟨ap,cg,pv,b1,a5,am⟩,b8⟩ cr c7 c9 c5 kx c6 _;obtain⟨⟨xi,xc⟩,xd⟩:=x;have kp:=bo.mod ap.2 (by omega);have kB:=(a1.call cf).mod ap.2 (by omega);have ep:=kp.cell;have eB:=kB.cell;have ex:=kx.cell;simp only at ex;have lx:=kx.lt;have df:=b1.lt;have en:=b1.cell;have lp:=kp.lt;have lB:=kB.lt;have db:=(N6.1 cr).1;have aq:(L.held.take k).length+1<=1073741824:=by rw [N7];omega
   replace aq:=hid aq;replace am:=hid am;rw [zW];unfold y7
   cases hb:L.blk
   ·rw [hb] at eB
    replace hb:=hid hb
    gi_wp2_with (gi_at_builtin
                 obtain⟨di,W3,al,ai,a2,ad⟩:=zQ zbD (a5.below ((N2 _ _).alloc (N0 _) (.cells #[.int .i64 xi,.int .u32 (xc:Int),.string (bs xd)] 78))) (jP (n:=1) (size:=3) (cap:=1) (Blk.new (w:=W) (cs:=#[.int .i64 xi,.int .u32 (xc:Int),.string (bs xd)]) (t:=78) rfl) rfl (N0 1)) (jv [((xi,xc),xd)]) aq.out 42;refine j1 rfl _ _ _ rfl rfl rfl al ?_;have b3:Blk W3 (w.heap.size+1) #[pv] 42:=(b1.alloc _).kept (a2.block _ (by simp;omega) (λe=>by have:=(am.out _ e.symm).1;omega));have c8:=b3.cell;have dc:=b3.frozen;have c2:=b3.lt;obtain⟨sa,sm,sc,rfl⟩:=ai.shape
                 clear al)
    have hm:Mod (λk=>k=w.heap.size+1∨pv.ownBlock=some k) W (W3.setCell ⟨w.heap.size+1,0,none⟩ (.slice sa sm sc)):=
     (((Mod.refl (λk=>k=w.heap.size+1∨pv.ownBlock=some k) W).thenAlloc _).trans (Mod.grown a2 (λk h=>.inr h)) (λ_ _ e=>e) (λ_ _ e=>e)).thenSet (p:=⟨w.heap.size+1,0,none⟩) (.inl rfl) _
    have ch:L.held.take (k+1)=L.held.take k++ [((xi,xc),xd)]:=by rw [List.take_add_one,cr];rfl
    refine⟨⟨ap.mod hm (λk hk h=>?_),by omega,_,b3.set _,?_,?_⟩,jJ.of_mod hm (λk hk hX h=>?_)⟩
    ·rcases h with h|h
     ·exact h
     have:=(am.out k h).1;omega
    ·rw [ch]
     simp only [N1,U2,U5];refine Row.kept (w:=W3) ai (λg hg=>N4 _ _ _ _ (show g≠w.heap.size+1 from λe=>?_));rw [hg] at ad
     rcases ad with h|h
     ·have:=(am.out _ h.symm).1;omega
     simp at h;omega
    ·intro g hg
     rw [hg] at ad
     rcases ad with h|h
     ·exact am.out g h.symm
     simp at h
     have:=ap.2.size;exact⟨by omega,λhX=>by have:=(ap.1 g hX).2;omega⟩
    have:=ap.1 k hX
    rcases h with h|h
    ·omega
    exact(am.out k h).2 hX
   rw [hb] at eB
   obtain rfl:=b8 hb;replace hb:=hid hb
   gi_wp2
   exact⟨⟨rfl,ap,cg,pv,b1,a5,am.out⟩,jJ.refl _ _⟩
  case done=>
   rintro D k X W hD bn ci⟨hN,b8⟩ ac;have bi:k=L.held.length:=ci;refine⟨.inl rfl,D,rfl,k,X,by omega,bn,?_,hN,ac⟩
   cases hb:L.blk
   ·rw [co.out hb,bi,List.take_length]
   rw [b4.out hb,b8 hb,List.take_zero]
  case stop=>
   rintro D c X W hD bn⟨rfl,hb,hN⟩ ac;exact wp_exit ⟨.inr rfl,D,rfl,0,X,by omega,bn,by rw [b4.out hb,List.take_zero],hN,ac⟩
 rintro D W⟨k,X,hD,bn,ch,⟨ap,cg,pv,b0,a5,am⟩,ac⟩
 rw [ch] at a5;obtain⟨pa,pc,rfl⟩:=a5.src.shape;have bl:Below w.heap.size w W:=cf.trans (ap.below (by omega) (λk hk=>by omega));have bz:=bo.mod ap.2 (by omega);have aj:=a5;have cv:=(N5.1 ac).1;have cy:w.heap.size<=D:=by omega
 have ak:∀g,(Value.slice pa xs.length pc).ownBlock=some g->w.heap.size<=g/\g≠D:=λg hg=>⟨by have:=(am g hg).1;omega,λe=>(am g hg).2 (e ▸ bn)⟩
 have cz:=ct;replace ag:∀_,_:=ag.out;replace ah:∀_,_:=ah.out;replace ae:∀_,_:=ae.out;clear am a5 ap cg;have kB:=a1.call bl;have cp:=br.below bl;have ca:=bu.below bl;have c4:=b0.lt;have de:=kB.lt;have c0:=bz.lt;have au:=a4.out W.drew cp;replace au:=hid au;replace ak:=hid ak;replace aj:=hid aj;replace ca:=hid ca;replace cp:=hid cp;have ce:D≠B:=λe=>by omega
 have cw:w.heap.size≠B:=λe=>by omega
 have bp:w.heap.size+1≠B:=λe=>by omega
 replace ac:=hid ac;replace ag:=hid ag;replace ah:=hid ah;replace ae:=hid ae;have cq:=kB;have ba:=bz;have bc:=b0;replace cq:=hid cq;replace ba:=hid ba;replace bc:=hid bc;go_wp2_with fail
 refine zd [O 0,O 1,O 2,O 3,O 4,O 5,O 6,E 7,O 8,O 9,E 10] (some 10) (λw'=>Blk w' (w.heap.size) #[.pointer (some ⟨B,0,none⟩)] 54/\Blk w' B #[.pointer (some ⟨fb,0,none⟩),.int .i64 L.st.1,.int .u32 L.st.2.1,.string (bs L.st.2.2),.bool L.blk,.slice ha hn hc,.slice la ln lc] 117/\Blk w' (w.heap.size+1) #[.slice pa xs.length pc] 42/\True) ⟨bz,kB,b0,trivial⟩ ?_;clear kB bz b0
 refine Wm ?_
 refine zc rfl (λK hK=>?_);go_wp2_with fail
 refine au.out.mono ?_;rintro e w1⟨b2,rfl,hm,bk,af⟩;obtain⟨bh,bg,bf,rfl⟩:=bk.shape;have be:=cq.out.drew.mod hm (λe=>(ag.out B e).1 rfl);have a6:=ba.out.drew.mod hm (λe=>by have:=(ag.out _ e).2;omega);have a8:=bc.out.drew.mod hm (λe=>by have:=(ag.out _ e).2;omega);go_wp2;refine hK.out _ _ (λ_=>⟨a6,be,a8,trivial⟩) ?_;clear hK K;have f1:=be.frozen;have c1:=be.cell;have l1:=be.lt;replace bk:=hid bk;replace af:=hid af
 refine Wm ?_
 refine zc rfl (λK hK=>?_);go_wp2;refine hK.out _ _ (λh=>absurd rfl h) ?_;clear hK K f1 c1;refine ze ?_;go_wp2_with fail
 have bm:=be.set (o:=5) (.slice bh bg bf);have ao:=a6.other (p:=⟨B,5,none⟩) cw (.slice bh bg bf);have an:=a8.other (p:=⟨B,5,none⟩) bp (.slice bh bg bf);obtain⟨W2,bt⟩:∃W2,W2=w1.setCell ⟨B,5,none⟩ (.slice bh bg bf):=⟨_,rfl⟩
 have cd:Mod (λk=>k=B∨(Value.slice ha hn hc).ownBlock=some k∨(Value.slice la ln lc).ownBlock=some k) W W2:=by
  rw [bt];exact((Mod.drew (λk=>k=B∨(Value.slice ha hn hc).ownBlock=some k∨(Value.slice la ln lc).ownBlock=some k) W).trans hm (λ_ _ e=>e) (λ_ _ e=>.inr (.inl e))).thenSet (p:=⟨B,5,none⟩) (.inl rfl) _
 have aa:∀k,k≠B->W2.heap[k]?=w1.heap[k]?:=λk hk=>by rw [bt];exact N4 _ _ _ _ hk
 have b6:Row W2 78 3 (.slice la ln lc) L.log.length (L.log.flatMap zg):=(ca.out.mod ((Mod.drew (λ_=>False) W).trans hm (Z:=λk=>(Value.slice ha hn hc).ownBlock=some k) (λ_ _ e=>e.elim) (λ_ _ e=>e)) (λg hg e=>ae.out g hg e)).kept (λg hg=>aa g (ah.out g hg).1);have bv:Row W2 78 3 (.slice pa xs.length pc) xs.length (xs.flatMap zg):=(aj.out.mod ((Mod.drew (λ_=>False) W).trans hm (Z:=λk=>(Value.slice ha hn hc).ownBlock=some k) (λ_ _ e=>e.elim) (λ_ _ e=>e)) (λg hg e=>by have:=(ak.out g hg).1;have:=(ag.out g e).2;omega)).kept (λg hg=>aa g (λe=>by have:=(ak.out g hg).1;omega));have bw:=bk.out.kept (w':=W2) (λg hg=>aa g (ag.out g (by rw [← af.out];exact hg)).1)
 have ar:W2.heap[D]?=some (.deferred (some [])):=by
  rw [aa D ce,hm.block D (by simpa using cv) (λe=>by have:=(ag.out D e).2;omega)];exact ac.out
 rw [← bt] at bm ao an⊢;have dh:W.heap.size<=W2.heap.size:=cd.size;clear bt hm be a6 a8 bk l1;obtain⟨dg,W3,al,ai,a2,ad⟩:=zQ zbD (w:=W2.drew) b6 bv.src (jv xs) cj 42;obtain⟨ay,aw,ax,rfl⟩:=ai.shape;have bd:=bm.drew.kept (w':=W3) (a2.block B bm.lt (λe=>(ah.out B e.symm).1 rfl));have bb:=ao.drew.kept (w':=W3) (a2.block _ ao.lt (λe=>by have:=(ah.out _ e.symm).2;omega));have a0:=an.drew.kept (w':=W3) (a2.block _ an.lt (λe=>by have:=(ah.out _ e.symm).2;omega));replace ai:=hid ai;replace b6:=hid b6;replace bv:=hid bv;replace bw:=hid bw;replace ad:=hid ad;replace ar:=hid ar;replace aa:=hid aa;replace al:=hid al;replace bd:=hid bd;replace bb:=hid bb;replace a0:=hid a0;refine zd [O 0,O 1,O 2,O 3,O 4,O 5,E 6,O 7,O 8,E 9] (some 9) (λw'=>Blk w' (w.heap.size) #[.pointer (some ⟨B,0,none⟩)] 54/\Blk w' B #[.pointer (some ⟨fb,0,none⟩),.int .i64 L.st.1,.int .u32 L.st.2.1,.string (bs L.st.2.2),.bool L.blk,.slice bh bg bf,.slice la ln lc] 117/\Blk w' (w.heap.size+1) #[.slice pa xs.length pc] 42/\True) ⟨ao,bm,an,trivial⟩ ?_;clear bm ao an
 refine Wm ?_
 refine zc rfl (λK hK=>?_);refine zw rfl _ _ _ rfl rfl rfl al.out ?_;unfold wpList;refine hK.out _ _ (λ_=>⟨bb.out,bd.out,a0.out,trivial⟩) ?_;clear hK K;have f3:=bd.out.frozen;have c3:=bd.out.cell;have l3:=bd.out.lt
 refine Wm ?_
 refine zc rfl (λK hK=>?_);go_wp2;refine hK.out _ _ (λh=>absurd rfl h) ?_;clear hK K f3 c3;refine ze ?_;have cm:=a0.out.other (p:=⟨B,6,none⟩) bp (.slice ay aw ax);have ck:=bd.out.set (o:=6) (.slice ay aw ax);have dd:=cm.cell;replace ck:=hid ck;go_wp2;rw [Exit.noGoto_ret]
 have b9:∀g,(Value.slice ay aw ax).ownBlock=some g->((Value.slice la ln lc).ownBlock=some g∨g=W2.heap.size):=λg hg=>by
  have:=ad.out;rw [hg] at this
  rcases this with h|h
  ·exact .inl h.symm
  right;simpa using h
 have a7:∀k,k<W2.heap.size->k≠B->(Value.slice la ln lc).ownBlock≠some k->(W3.setCell ⟨B,6,none⟩ (.slice ay aw ax)).heap[k]?=W2.heap[k]?:=λk hk h1 h2=>
  (N4 _ _ _ _ h1).trans (a2.block k hk (λe=>h2 e.symm))
 have cu:Mod (λk=>k=B∨(Value.slice ha hn hc).ownBlock=some k∨(Value.slice la ln lc).ownBlock=some k) W (W3.setCell ⟨B,6,none⟩ (.slice ay aw ax)):=
  ((cd.thenDrew).trans (Mod.grown (X:=λk=>(Value.slice la ln lc).ownBlock=some k) a2 (λk h=>h)) (λ_ _ e=>e) (λ_ _ e=>.inr (.inr e))).thenSet (p:=⟨B,6,none⟩) (.inl rfl) _
 have cc:=(Mod.of_below (λk=>k=B∨(Value.slice ha hn hc).ownBlock=some k∨(Value.slice la ln lc).ownBlock=some k) bl).trans cu (λ_ _ e=>e) (λ_ _ e=>e);have bq:(W3.setCell ⟨B,6,none⟩ (.slice ay aw ax)).heap[D]?=some (.deferred (some [])):=(a7 D (by omega) ce (λe=>by have:=(ah.out D e).2;omega)).trans ar.out;have az:∀k,k≠D->((W3.setCell ⟨B,6,none⟩ (.slice ay aw ax)).putObj D (.deferred none)).heap[k]?=(W3.setCell ⟨B,6,none⟩ (.slice ay aw ax)).heap[k]?:=λk hk=>U1 hk
 have bj:∀g,(Value.slice pa xs.length pc).ownBlock=some g->g<W.heap.size:=λg hg=>aj.out.lt hg
 refine jb (D:=D) (v:=.slice pa xs.length pc) bq (by simp [results,Tryz.results264,go_sem]) ?_;refine⟨_,ow.ext w.heap.size (λk=>(Value.slice ay aw ax).ownBlock=some k) (t++ [2]),rfl,?_,⟨hk.out,fb,.slice bh bg bf,.slice ay aw ax,ck.out.putObj (Ne.symm ce) _,?_,?_,?_,?_,?_,?_⟩,?_,?_⟩
 ·refine zt.putNew ⟨cc.mono (λk _ e=>?_),λk hk=>Own.ext_old hk⟩ D _ cy
  rcases e with e|e|e
  ·subst e;rw [o1];exact Sub.rfl' t
  ·rw [o2.out k e];exact Sub.child t 1
  rw [o3.out k e];exact Sub.child t 2
 ·refine zJ.loc fb L.fold (t++ [0]) _ _ _ _ cl.out (by have:=cc.size;simpa using this) (λk hk1 hs=>⟨Own.ext_old hk1,(az k (by omega)).trans (cc.block k hk1 (λe=>?_))⟩)
  rcases e with e|e|e
  ·subst e;rw [o1] at hs;exact zU t 0 hs
  ·rw [o2.out k e] at hs;exact(zS t (show(0:Nat)≠1 by omega)).1 hs
  rw [o3.out k e] at hs;exact(zS t (show(0:Nat)≠2 by omega)).1 hs
 ·refine bw.out.kept (λg hg=>?_)
  have h1:(Value.slice ha hn hc).ownBlock=some g:=by rw [← af.out];exact hg
  rw [az g (by have:=(ag.out g h1).2;omega)];exact a7 g (bw.out.lt hg) (ag.out g h1).1 (λe=>ae.out g e h1)
 ·simp only [N1,U5]
  refine ai.out.kept (λg hg=>?_)
  have h1:g≠B/\g≠D:=by
   rcases b9 g hg with h|h
   ·have:=ah.out g h;omega
   have:=cd.size;omega
  rw [az g h1.2];exact N4 _ _ _ _ h1.1
 ·rw [Own.ext_old a1.lt,o1]
 ·intro g hg
  have h1:(Value.slice ha hn hc).ownBlock=some g:=by rw [← af.out];exact hg
  rw [Own.ext_old (ag.out g h1).2,o2.out g h1]
 ·intro g hg
  rcases b9 g hg with h|h
  ·rw [Own.ext_old (ah.out g h).2,o3.out g h]
  rw [Own.ext_new (by have:=bl.size;omega) hg]
 ·refine bv.out.kept (λg hg=>?_)
  have h1:=ak.out g hg;rw [az g h1.2];exact a7 g (by have:=bj g hg;omega) (by omega) (λe=>by have:=(ah.out g e).2;omega)
 intro g hg
 have h1:=ak.out g hg;refine⟨h1.1,Own.ext_none h1.1 (λe=>?_)⟩;have h2:=bj g hg
 rcases b9 g e with h|h
 ·have:=(ah.out g h).2;omega
 omega
end
open Go Go.RowKit Go.Shelf Go.Extern.Stop Go.Stop Go.Extern
attribute [local go_sem] Oper.semAt_some zB zp
def zks(L:zP)(t:List Nat)(ow:Own)(w:World)(e:Ending)(w':World):Prop:=
 ∃B ow',e=.returned (.tuple #[.pointer (some ⟨B,0,none⟩),.int .i64 0])/\zt t ow w ow' w'/\Below w.heap.size w w'/\zK B L t ow' w'
theorem ziF {v:Int}(h:known v=true):∃d,zeS v=((v,0,d),0):=by
 have:v=1∨v=2∨v=3:=by simp [known] at h;omega
 rcases this with rfl|rfl|rfl<;>exact⟨_,rfl⟩
def zk(v:Int):StD:=(zeS v).1
theorem zkt(a:Addr)(v:Int)(hv:known v=true)(t:List Nat)(ow:Own)(w:World)(he:jK w a):Calls prog 87 #[.int .i64 v] w (zks (zeT v (zk v)) t ow w):=by
 obtain⟨d,hd⟩:=ziF hv;have ac:zk v=(v,0,d):=by unfold zk;rw [hd]
 have hn:=zjS v hv (t++ [0]) (ow.cut w) w;have ae:=λW (hW:Below w.heap.size w W)=>zj0 (a:=a) hd W (he.below hW he.lt)
 rw [ac];replace hn:=hid hn;replace ae:=hid ae;replace hd:=hid hd;replace ac:=hid ac;replace hv:=hid hv
 go_enter func87,ntmps87
 go_wp2_with fail
 refine hn.out.mono ?_;rintro e w1⟨fb,aa,rfl,ai,ag,af⟩;replace af:=hid af;go_wp2_with fail
 refine(ae.out _ ag).mono ?_;rintro e w2⟨rfl,ad⟩;go_wp2;have ah:Below w.heap.size w w2:=zh ag ad;have ak:=ag.size;have aj:=ad.size;refine bodyPost_ret (v:=.tuple #[.pointer (some ⟨w2.heap.size+1,0,none⟩),.int .i64 0]) (by simp [results,Tryz.results87,go_sem]) rfl ?_;refine⟨w2.heap.size+1,λk=>if k=w2.heap.size+1 then t else aa.cut w1 k,rfl,⟨Mod.of_below _ (zi (zi ah _) _),λk hk=>?_⟩,zi (zi ah _) _,hv.out,fb,.slice none 0 0,.slice none 0 0,Blk.new (by simp),?_,z7 _ _ _,z7 _ _ _,if_pos rfl,by simp [Value.ownBlock],by simp [Value.ownBlock]⟩
 ·show(if k=w2.heap.size+1 then t else aa.cut w1 k)=ow k
  rw [if_neg (by omega),Own.cut_old (by omega),ai.agree k hk,Own.cut_old hk]
 refine zJ.loc fb _ (t++ [0]) aa _ w1 _ af.out (by simp;omega) (λk hk hs=>⟨?_,?_⟩)
 ·show(if k=w2.heap.size+1 then t else aa.cut w1 k)=aa k
  rw [if_neg (by omega),Own.cut_old hk]
 exact(zi (zi ad _) _).block k hk
theorem jK.step {t:List Nat}(ht:t≠ []){ow ow':Own}{w w':World}{a:Addr}(h:jK w a)(hs:zt t ow w ow' w')(ho:ow 2=[]):jK w' a:=
 (hs.cell (p:=⟨2,0,none⟩) h.lt (by rw [ho];exact zj ht)).trans h
theorem zK.fold {B fb:Nat}{L:zP}{f':yW}{t:List Nat}{ow ow':Own}{w w':World}{hv lv:Value}(hk:known L.st.1=true)(hB:Blk w B (j3 fb hv lv L) 117)
 (hH:Row w 78 3 hv L.held.length (L.held.flatMap zg)) (hG:Row w 78 3 lv L.log.length (L.log.flatMap zg)) (o1:ow B=t) (o2:∀g,hv.ownBlock=some g->ow g=t++ [1]) (o3:∀g,lv.ownBlock=some g->ow g=t++ [2])
 (hs:zt (t++ [0]) ow w ow' w') (hF:zJ fb f' (t++ [0]) ow' w'):zK B {L with fold:=f'} t ow' w':=by
 refine⟨hk,fb,hv,lv,hB.kept (hs.block hB.lt (by rw [o1];exact zU t 0)),hF,?_,?_,(hs.agree B hB.lt).trans o1,λg hg=>(hs.agree g (hH.lt hg)).trans (o2 g hg),λg hg=>(hs.agree g (hG.lt hg)).trans (o3 g hg)⟩
 ·exact hH.step hs (λg hg e=>by rw [o2 g hg] at e;exact(zS t (show(0:Nat)≠1 by omega)).1 e)
 exact hG.step hs (λg hg e=>by rw [o3 g hg] at e;exact(zS t (show(0:Nat)≠2 by omega)).1 e)
def zai(B:Nat)(t:List Nat)(ow:Own)(w:World)(R:zP×List zA×Int)(e:Ending)(w':World):Prop:=
 ∃v ow',e=.returned (.tuple #[v,.int .i64 R.2.2])/\zt t ow w ow' w'/\zK B R.1 t ow' w'/\Row w' 78 3 v R.2.1.length (R.2.1.flatMap zg)/\(∀g,v.ownBlock=some g->w.heap.size<=g/\ow' g=[])
theorem zgC(a:Addr)(B:Nat)(L:zP)(t:List Nat)(ht:t≠ [])(ow:Own)(e:jH)(mv:Value)(fails:Bool)(w:World)(he:jK w a)(hge:ow 2=[])(h:zK B L t ow w)
 (hm:qJ w mv e.msgs) (hmt:∀a l c,mv=.slice (some a) l c->¬Sub t (ow a.block)) (hl:Zc L.fold.book+64<=268435456) (hl2:L.fold.eras.length<=536870911) (hm2:e.msgs.length<=1073741824) (hct:0<=L.fold.count/\L.fold.count<=1073741824)
 (hl3:L.held.length+L.log.length+(j4 L.fold e).2.1.length<=268435456) (hl4:(j4 L.fold e).1.eras.length<=536870912):
 Calls prog 214 #[.pointer (some ⟨B,0,none⟩),ZG e mv,.bool fails] w (zai B t ow w (yk L e fails)):=by
 obtain⟨R,ae⟩:∃R,yk L e fails=R:=⟨_,rfl⟩;rw [ae];unfold yk at ae;have ad:=λW (hW:Below w.heap.size w W)=>Z4 B L t ow W ((zK.loc B L t).below h hW)
 obtain⟨hk,fb,hv,lv,be,bo,bj,bi,o1,o2,o3⟩:=h;obtain⟨W1,ai⟩:∃W1,W1=(w.alloc (.cells #[.int .i64 e.kind,.int .u32 e.epoch,.int .i64 e.ver,mv] 241)).drew:=⟨_,rfl⟩;have aq:Below w.heap.size w W1:=by rw [ai];exact pbx
 have kx:Blk W1 w.heap.size #[.int .i64 e.kind,.int .u32 e.epoch,.int .i64 e.ver,mv] 241:=by rw [ai];exact bkx
 have bn:=be.lt;have kB:=be.call aq;have au:t++ [0] ≠ []:=by simp
 have ag:∀k,k<w.heap.size->ow.cut w k=ow k:=λk hk=>Own.cut_old hk
 have an:=zhV fb L.fold (t++ [0]) au (ow.cut w) e mv W1 ((zJ.loc fb L.fold (t++ [0])).cut bo aq) (hm.below aq) (λa l c h hs=>by
  rcases Nat.lt_or_ge a.block w.heap.size with h1|h1
  ·rw [Own.cut_old h1] at hs;exact hmt a l c h ((Sub.child t 0).trans hs)
  rw [Own.cut_new h1] at hs;exact zj au hs) (by omega) (by omega) hm2 hct
 obtain⟨⟨f',ms,bg,er⟩,hA⟩:∃A,j4 L.fold e=A:=⟨_,rfl⟩;rw [hA] at an ae hl3 hl4;unfold ZG at an⊢;have ax:=λ(ow':Own)(w':World)(hs:zt (t++ [0]) (ow.cut w) W1 ow' w') (hF:zJ fb f' (t++ [0]) ow' w')=>zK.fold (ow:=ow.cut w) hk kB (bj.below aq) (bi.below aq) (by rw [ag B bn,o1]) (λg hg=>by rw [ag g (bj.lt hg),o2 g hg]) (λg hg=>by rw [ag g (bi.lt hg),o3 g hg]) hs hF
 have a8:ow.cut w B=t:=by rw [ag B bn,o1]
 have aw:=he.below aq he.lt;have aj:ow.cut w 2=[]:=by rw [ag _ he.lt,hge]
 simp only at ae hl3 hl4;unfold j3 at kB;replace ax:=hid ax;replace an:=hid an;replace ad:=hid ad;replace hA:=hid hA;replace aj:=hid aj;replace a8:=hid a8;replace aw:=hid aw;replace hl4:=hid hl4;clear bo be bj bi o1 o2 o3 hm hmt he hge hk ag
 by_cases her:er=0
 ·subst her
  rw [if_neg (by simp)] at ae;have a7:zjz L (f',ms,bg,0) fails=(if bg then yr {L with fold:=f'} (vC f'.eras).2.1 fails else {L with fold:=f'}):=rfl;rw [a7] at ae;clear a7
  cases bg
  ·simp only [Bool.false_eq_true,if_false] at ae
   have aa:=ae;clear ae;replace aa:=hid aa
   go_enter func214,ntmps214
   go_wp2_with fail
   refine(ad.out _ (pbx)).mono ?_;rintro r w1⟨rfl,rfl⟩;go_wp2_with fail
   refine zd [O 0,O 1,O 2,O 3,O 4,O 5,E 6,O 7,O 8,O 9,O 10,O 11,O 12,O 13] none (λw'=>Blk w' w.heap.size #[.int .i64 e.kind,.int .u32 e.epoch,.int .i64 e.ver,mv] 241/\Blk w' B #[.pointer (some ⟨fb,0,none⟩),.int .i64 L.st.1,.int .u32 L.st.2.1,.string (bs L.st.2.2),.bool L.blk,hv,lv] 117/\True) (by rw [← ai];exact⟨kx,kB,trivial⟩) ?_;rw [← ai];clear ai
   refine Wd ?_
   refine zc rfl (λK hK=>?_);go_wp2_with fail
   refine an.out.mono ?_;rintro r w2⟨nv,af,rfl,ac,a0,a9,ar⟩;have ah:=ax.out af w2 ac a0;have ak:zt t ow w af w2:=(zt.wrap aq ac).mono (Sub.child t 0);have ao:=aw.out.step au ac aj.out;replace ao:=hid ao;have ay:=kx.kept (ac.free au (N0 _) kx.lt).1;have az:=kB.kept (ac.block kB.lt (by rw [a8.out];exact zU t 0));replace ah:=hid ah;replace ar:=hid ar;go_wp2;refine hK.out _ _ (λ_=>⟨ay,az,trivial⟩) ?_;clear hK K ac a0 ay az kx kB aw ax an ad
   refine Wd ?_
   refine ze ?_;have bb:=ah.out;have bl:({L with fold:=f'} :zP).held.length+ms.length<=1073741824:=by show L.held.length+ms.length<=_;omega
   have bc:(qL {L with fold:=f'} ms).held.length+(qL {L with fold:=f'} ms).log.length<=536870912:=by simp only [qL,N1];omega
   have al:=ak;have bh:=a9
   generalize({L with fold:=f'} :zP)=L2 at*
   have a4:=zbO B L2 t af nv ms w2 bb bh.src bl;replace a4:=hid a4;go_wp2_with fail
   refine a4.out.mono ?_;rintro r w4⟨rfl,bf,a6,a5⟩;have a2:=XT B (qL L2 ms) t ht bf w4 a5 bc;replace a2:=hid a2;replace a5:=hid a5;go_wp2_with fail
   refine a2.out.mono ?_;rintro r w5⟨v5,bd,rfl,bk,a3,bm,ap⟩;replace a3:=hid a3;replace ap:=hid ap;go_wp2;refine bodyPost_ret (v:=.tuple #[v5,.int .i64 0]) (by simp [results,Tryz.results214,go_sem]) rfl ?_;rw [← aa.out];exact⟨v5,bd,rfl,(al.trans a6).trans bk,a3.out,bm,λg hg=>⟨by have:=(ap.out g hg).1;have:=al.size;have:=a6.size;omega,(ap.out g hg).2⟩⟩
  simp only [if_true] at ae
  have aa:=ae;clear ae;obtain⟨⟨ep,ve,st⟩,hn⟩:∃n,vC f'.eras=n:=⟨_,rfl⟩;rw [hn] at aa;simp only at aa;have br:=zhL ep ve st;replace aa:=hid aa
  go_enter func214,ntmps214
  go_wp2_with fail
  refine(ad.out _ (pbx)).mono ?_;rintro r w1⟨rfl,rfl⟩;go_wp2_with fail
  refine zd [O 0,O 1,O 2,O 3,O 4,O 5,E 6,O 7,O 8,O 9,O 10,O 11,O 12,O 13] none (λw'=>Blk w' w.heap.size #[.int .i64 e.kind,.int .u32 e.epoch,.int .i64 e.ver,mv] 241/\Blk w' B #[.pointer (some ⟨fb,0,none⟩),.int .i64 L.st.1,.int .u32 L.st.2.1,.string (bs L.st.2.2),.bool L.blk,hv,lv] 117/\True) (by rw [← ai];exact⟨kx,kB,trivial⟩) ?_;rw [← ai];clear ai
  refine Wd ?_
  refine zc rfl (λK hK=>?_);go_wp2_with fail
  refine an.out.mono ?_;rintro r w2⟨nv,af,rfl,ac,a0,a9,ar⟩;have ah:=ax.out af w2 ac a0;have ak:zt t ow w af w2:=(zt.wrap aq ac).mono (Sub.child t 0);have ao:=aw.out.step au ac aj.out;replace ao:=hid ao;have ay:=kx.kept (ac.free au (N0 _) kx.lt).1;have az:=kB.kept (ac.block kB.lt (by rw [a8.out];exact zU t 0));replace ah:=hid ah;replace ar:=hid ar;go_wp2;refine hK.out _ _ (λ_=>⟨ay,az,trivial⟩) ?_;clear hK K ac a0 ay az kx kB aw ax an ad
  refine Wd ?_
  refine ze ?_;have am:=zaF B {L with fold:=f'} t af w2 ah.out hl4.out;simp only [hn] at am;unfold Yg at am;replace am:=hid am;replace hn:=hid hn;go_wp2_with fail
  refine am.out.mono ?_;rintro r w6⟨rfl,ba⟩;have a1:=zbN a B {L with fold:=f'} t af ve fails w6 (ao.out.below ba ao.out.lt) ((zK.loc B _ t).below ah.out ba);have bl:(yr {L with fold:=f'} ve fails).held.length+ms.length<=1073741824:=by show L.held.length+ms.length<=_;omega
  have bc:(qL (yr {L with fold:=f'} ve fails) ms).held.length+(qL (yr {L with fold:=f'} ve fails) ms).log.length<=536870912:=by simp only [qL,yr,N1];omega
  generalize yr {L with fold:=f'} ve fails=L2 at*
  replace a1:=hid a1;go_wp2_with fail
  refine a1.out.mono ?_;rintro r w3⟨rfl,bq,bp,bb⟩;have al:=(ak.trans (zt.of_below t af ba)).trans bp;have bh:=(a9.below ba).step bp (λg hg e=>by rw [(ar.out g hg).2] at e;exact zj ht e);have a4:=zbO B L2 t bq nv ms w3 bb bh.src bl;replace a4:=hid a4;go_wp2_with fail
  refine a4.out.mono ?_;rintro r w4⟨rfl,bf,a6,a5⟩;have a2:=XT B (qL L2 ms) t ht bf w4 a5 bc;replace a2:=hid a2;replace a5:=hid a5;go_wp2_with fail
  refine a2.out.mono ?_;rintro r w5⟨v5,bd,rfl,bk,a3,bm,ap⟩;replace a3:=hid a3;replace ap:=hid ap;go_wp2;refine bodyPost_ret (v:=.tuple #[v5,.int .i64 0]) (by simp [results,Tryz.results214,go_sem]) rfl ?_;rw [← aa.out];exact⟨v5,bd,rfl,(al.trans a6).trans bk,a3.out,bm,λg hg=>⟨by have:=(ap.out g hg).1;have:=al.size;have:=a6.size;omega,(ap.out g hg).2⟩⟩
 rw [if_pos (by simpa using her)] at ae
 have t1:(er !=0)=true:=by simpa using her
 have aa:=ae;clear ae;replace aa:=hid aa;replace her:=hid her
 go_enter func214,ntmps214
 go_wp2_with fail
 refine(ad.out _ (pbx)).mono ?_;rintro r w1⟨rfl,rfl⟩;go_wp2_with fail
 refine zd [O 0,O 1,O 2,O 3,O 4,O 5,E 6,O 7,O 8,O 9,O 10,O 11,O 12,O 13] none (λw'=>Blk w' w.heap.size #[.int .i64 e.kind,.int .u32 e.epoch,.int .i64 e.ver,mv] 241/\Blk w' B #[.pointer (some ⟨fb,0,none⟩),.int .i64 L.st.1,.int .u32 L.st.2.1,.string (bs L.st.2.2),.bool L.blk,hv,lv] 117/\True) (by rw [← ai];exact⟨kx,kB,trivial⟩) ?_;rw [← ai];clear ai
 refine Wd ?_
 refine zc rfl (λK hK=>?_);go_wp2_with fail
 refine an.out.mono ?_;rintro r w2⟨nv,af,rfl,ac,a0,a9,ar⟩;have ah:=ax.out af w2 ac a0;have ak:zt t ow w af w2:=(zt.wrap aq ac).mono (Sub.child t 0);have ao:=aw.out.step au ac aj.out;replace ao:=hid ao;have ay:=kx.kept (ac.free au (N0 _) kx.lt).1;have az:=kB.kept (ac.block kB.lt (by rw [a8.out];exact zU t 0));replace ah:=hid ah;replace ar:=hid ar;go_wp2;refine hK.out _ _ (λ_=>⟨ay,az,trivial⟩) ?_;clear hK K ac a0 ay az kx kB aw ax an ad
 refine Wd ?_
 refine ze ?_;go_wp2;refine bodyPost_ret (v:=.tuple #[.slice none 0 0,.int .i64 er]) (by simp [results,Tryz.results214,go_sem]) rfl ?_;rw [← aa.out];exact⟨_,af,rfl,ak,ah.out,z7 _ _ _,by simp [Value.ownBlock]⟩
