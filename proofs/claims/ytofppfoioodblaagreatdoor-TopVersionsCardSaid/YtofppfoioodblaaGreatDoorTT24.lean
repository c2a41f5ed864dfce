/- PARTS OF THE PROOF. -/
import Derived.Lib.SliceRun
import Derived.Test.YtofppfoioodblaaGreatDoorTT11
set_option maxRecDepth 8000
set_option maxHeartbeats 4000000
open Go.Proofs.Tryz
namespace Go.Proofs.YtofppfoioodblaaGreatDoor
section
open Go Go.RowKit Go.Shelf Go.Extern.Stop Go.Stop Go.Extern
attribute [local go_sem] Oper.semAt_some zv zm
theorem zc4(a b:Option Addr)(c c':Nat)(ty:TypeId)(w:World):(Builtin.append_ #[42,42] ty #[.slice a 0 c,.slice b 0 c']).run prog w=.ok (.slice a 0 c) w:=by
 obtain⟨i,hi,hz0,hz1,hz2⟩:=info_parts zcc.info
 cases a<;>cases b<;>simp [Builtin.append_,run_underlying zcc.under,sizeOf,typeInfo,hi,Builtin.lenOf,Builtin.firstCells,loadCells,loadCellsFrom,storeCells]
theorem JH(g:Nat):∀(vs:List Value)(o:Nat)(w:World)(cur:Array Value)(e:TypeId),w.heap[g]?=some (.cells cur e (0,0))->
 (∃cur',(w.setCells g o vs).heap[g]?=some (.cells cur' e (0,0))/\cur'.size=cur.size)/\Mod (λk=>k=g) w (w.setCells g o vs)
 | [],_,w,cur,e,h=>⟨⟨cur,h,rfl⟩,Mod.refl _ _⟩
 |v::vs,o,w,cur,e,h=>by
  have h1:Blk (w.setCell ⟨g,o,none⟩ v) g (cur.setIfInBounds o v) e:=Blk.set (w:=w) h v;obtain⟨⟨cur',h2,h3⟩,h4⟩:=JH g vs (o+1) _ _ e h1;refine⟨⟨cur',h2,by simpa using h3⟩,(Mod.setCell (X:=λk=>k=g) w ⟨g,o,none⟩ v rfl).trans h4 (λ_ _ e=>e) (λ_ _ e=>e)⟩
theorem zfj {w:World}{g n cap:Nat}{cur:Array Value}(hn:0<n)(h:w.heap[g]?=some (.cells cur 78 (0,0)))(hs:n*3<=cur.size)(ty:TypeId):
 (Builtin.clear_ #[42] ty #[.slice (some ⟨g,0,none⟩) n cap]).run prog w=.ok (.tuple #[]) (w.setCells g 0 (Builtin.zeroCells #[.int .i64 0,.int .u32 0,.string ⟨#[]⟩] n).toList):=by
 have hb:Blk w g cur 78:=h;have hv:∀w:World,(zeroValue 78).run prog w=.ok (.agg #[.int .i64 0,.int .u32 0,.string ⟨#[]⟩]) w:=λw=>by kernel_rfl
 have hlen:(Builtin.zeroCells #[.int .i64 0,.int .u32 0,.string ⟨#[]⟩] n).toList.length=n*3:=by simp [Builtin.zeroCells]
 have hst:=run_storeCells_cells (P:=prog) g 0 (Builtin.zeroCells #[.int .i64 0,.int .u32 0,.string ⟨#[]⟩] n).toList 0 w
  (λj hj=>by rw [hb.cell];simp;rw [hlen] at hj;omega) (λj hj=>hb.frozen _) (λu hu=>by
   simp [Builtin.zeroCells] at hu
   obtain⟨i,hi,rfl⟩:=hu;have:i % 3=0∨i % 3=1∨i % 3=2:=by omega
   rcases this with h|h|h<;>rw [h] <;>rfl)
 obtain⟨m,rfl⟩:∃m,n=m+1:=⟨n - 1,by omega⟩;simp only [Nat.add_zero] at hst;simp [Builtin.clear_,run_underlying zcc.under,hv,Value.cells,hst]
theorem Z5(v:Value)(hv:∃a n c,v=.slice a n c/\n<=c/\c<=9223372036854775807)(w:World):Calls prog 313 #[v,.int .i64 0,.int .i64 0] w λe w'=>e=.returned v/\w'=w:=by
 obtain⟨a,n,c,rfl,h1,h2⟩:=hv;have y0:(n:Int)<=c:=by omega
 have y1:(c:Int)<=9223372036854775807:=by omega
 go_enter func313,ntmps313
 go_wp2;go_ret
 exact⟨rfl,rfl⟩
def zhe(g cap:Nat)(w:World)(e:Ending)(w':World):Prop:=
 e=.returned (.slice (some ⟨g,0,none⟩) 0 cap)/\Mod (λk=>k=g) w w'/\Row w' 78 3 (.slice (some ⟨g,0,none⟩) 0 cap) 0 []
theorem zfk(g n cap:Nat)(xs:List Value)(hn:0<n)(w:World)(h:Row w 78 3 (.slice (some ⟨g,0,none⟩) n cap) n xs):Calls prog 313 #[.slice (some ⟨g,0,none⟩) n cap,.int .i64 0,.int .i64 n] w (zhe g cap w):=by
 rcases h.2 with⟨h0, -⟩|⟨g',cap',cur,h0, -,hg,hc,hm,hs, -⟩
 ·cases h0
 cases h0
 unfold maxLen at hm;obtain⟨zs,hzs⟩:∃zs,(Builtin.zeroCells #[.int .i64 0,.int .u32 0,.string ⟨#[]⟩] n).toList=zs:=⟨_,rfl⟩
 have hcl:∀ty,(Builtin.clear_ #[42] ty #[.slice (some ⟨g,0,none⟩) n cap]).run prog w.drew=.ok (.tuple #[]) (w.drew.setCells g 0 zs):=λty=>by
  rw [← hzs];exact zfj (w:=w.drew) hn hg (by rw [hs];exact Nat.mul_le_mul_right 3 hc) ty
 obtain⟨⟨cur',hg',hs'⟩,hmod⟩:=JH g zs 0 w.drew cur 78 hg
 have hpost:zhe g cap w (.returned (.slice (some ⟨g,0,none⟩) 0 cap)) (w.drew.setCells g 0 zs):=
  ⟨rfl,(Mod.drew _ w).trans hmod (λ_ _ e=>e) (λ_ _ e=>e),rfl,.inr ⟨g,cap,cur',rfl,Nat.zero_le _,hg',Nat.zero_le _,by unfold maxLen;omega,by rw [hs',hs],by simp⟩⟩
 have y0:(n:Int)<=cap:=by omega
 have y1:(cap:Int)<=9223372036854775807:=by omega
 have y2:(0:Int)<n:=by omega
 have y3:((0:Int)==(n:Int))=false:=by simp;omega
 have hap:=zc4
 generalize hW:w.drew.setCells g 0 zs=W at*
 replace hW:=hid hW;replace hpost:=hid hpost;replace hap:=hid hap;clear h hg hs hg' hs' hmod hzs
 by_cases hcn:cap=n
 ·subst hcn
  go_enter func313,ntmps313
  go_wp2_with fail
  refine zd [O 0,O 1,O 2,O 3,O 4,O 5,E 6,O 7] none (λ_=>True) (by kernel_rfl) (by kernel_rfl) trivial ?_
  (repeat (refine za (v:=?_) rfl rfl (λw' h=>?_) (λK k=>?_);rotate_left;obtain⟨f1,f2,f3,f4,f5,_⟩:=h;(try have e1:=f1.cell);(try have e2:=f2.cell);(try have e3:=f3.cell);(try have e4:=f4.cell);(try have e5:=f5.cell);go_simp;(try with_reducible rfl);go_simp;refine k _ ?_;clear k K))
  refine zc rfl (λK hK=>?_);refine zw rfl _ _ _ rfl rfl rfl (hap.out _ _ _ _ _ _) ?_;unfold wpList;refine hK.out _ _ (λ_=>trivial) ?_;clear hK K
  (repeat (refine za (v:=?_) rfl rfl (λw' h=>?_) (λK k=>?_);rotate_left;obtain⟨f1,f2,f3,f4,f5,_⟩:=h;(try have e1:=f1.cell);(try have e2:=f2.cell);(try have e3:=f3.cell);(try have e4:=f4.cell);(try have e5:=f5.cell);go_simp;(try with_reducible rfl);go_simp;refine k _ ?_;clear k K))
  refine ze ?_;go_wp2;go_ret
  exact hpost.out
 ·
   go_enter func313,ntmps313
   go_wp2_with fail
   refine zd [O 0,O 1,O 2,O 3,O 4,O 5,E 6,O 7] none (λ_=>True) (by kernel_rfl) (by kernel_rfl) trivial ?_
   (repeat (refine za (v:=?_) rfl rfl (λw' h=>?_) (λK k=>?_);rotate_left;obtain⟨f1,f2,f3,f4,f5,_⟩:=h;(try have e1:=f1.cell);(try have e2:=f2.cell);(try have e3:=f3.cell);(try have e4:=f4.cell);(try have e5:=f5.cell);go_simp;(try with_reducible rfl);go_simp;refine k _ ?_;clear k K))
   refine zc rfl (λK hK=>?_);refine zw rfl _ _ _ rfl rfl rfl (hap.out _ _ _ _ _ _) ?_;unfold wpList;refine hK.out _ _ (λ_=>trivial) ?_;clear hK K
   (repeat (refine za (v:=?_) rfl rfl (λw' h=>?_) (λK k=>?_);rotate_left;obtain⟨f1,f2,f3,f4,f5,_⟩:=h;(try have e1:=f1.cell);(try have e2:=f2.cell);(try have e3:=f3.cell);(try have e4:=f4.cell);(try have e5:=f5.cell);go_simp;(try with_reducible rfl);go_simp;refine k _ ?_;clear k K))
   refine ze ?_;go_wp2;go_ret
   exact hpost.out
theorem zfl(v:Value)(hv:∃a n c,v=.slice a n c)(w:World):Calls prog 312 #[v] w λe w'=>
 e=.returned (.func (.func 174) #[] #[.pointer (some ⟨w.heap.size,0,none⟩)])/\w'=w.alloc (.cells #[v] 42):=by
 obtain⟨a,n,c,rfl⟩:=hv
 go_enter func312,ntmps312
 go_wp2_with (go_at_call 133;refine(XZ _ ⟨_,_,_,rfl⟩ _).mono ?_;rintro e w1 ⟨rfl,rfl⟩)
 go_ret
 exact⟨rfl,rfl⟩
def zkb(B:Nat)(R:zR×List zy)(t:List Nat)(ow:Own)(w:World)(e:Ending)(w':World):Prop:=
 ∃v ow',e=.returned v/\zq t ow w ow' w'/\zI B R.1 t ow' w'/\Row w' 78 3 v R.2.length (R.2.flatMap zh)/\(∀g,v.ownBlock=some g->w.heap.size<=g/\ow' g=[])
theorem zkc {P:Program}{id:Nat}{c:Code}{Q:Exit->Act->World->Prop}{a:Act}{w:World}(Fa:Nat->World->Prop)(hx:∀a' W,Q .normal a' W->Q (.exit id) a' W)
 (h:c.wp P (λe a' W=>(e=.normal∨e=.exit id)/\∃D,a'={a with defers:={target:=.collected D,args:=#[] } ::a.defers} /\Fa D W) a w)
 (h2:∀D W,Fa D W->Q .normal {a with defers:={target:=.collected D,args:=#[] } ::a.defers} W):c.wp P Q a w:=
 wp_mono h (λe a' W ⟨he,D,ha,hf⟩=>by
  subst ha
  rcases he with rfl|rfl
  ·exact h2 D W hf
  ·exact hx _ _ (h2 D W hf))
def zfm(l:List zy)(pb:Nat)(W0:World)(k:Nat)(X:Nat->Prop)(W:World):Prop:=
 Fr (λk=>k=pb) W0 X W/\k<=l.length/\∃pv,Blk W pb #[pv] 42/\Row W 78 3 pv (l.take k).length ((l.take k).flatMap zh)/\(∀g,pv.ownBlock=some g->W0.heap.size<=g/\¬X g)
theorem zfm.stab {l:List zy}{pb:Nat}{W0:World}{k:Nat}{X X':Nat->Prop}{W W':World}(h1:pb<W0.heap.size)
 (h:zfm l pb W0 k X W) (hm:Mod X W W') (hx:∀k,X' k->X k∨(W.heap.size<=k/\k<W'.heap.size)):zfm l pb W0 k X' W':=by
 obtain⟨hfr,hk,pv,kp,kw,hn⟩:=h;refine⟨hfr.step hm hx,hk,pv,kp.kept (hfr.block hm h1),kw.mod hm (λg hg=>(hn g hg).2),λg hg=>⟨(hn g hg).1,λhX=>?_⟩⟩
 rcases hx g hX with h|h
 ·exact(hn g hg).2 h
 ·have:=kw.lt hg;omega
theorem V7(B:Nat)(L:zR)(t:List Nat)(_ht:t≠ [])(ow:Own)(w:World)(h:zI B L t ow w)(hl:L.held.length+L.log.length<=536870912):
 Calls prog 264 #[.pointer (some ⟨B,0,none⟩)] w (zkb B (yw L) t ow w):=by
 obtain⟨hk,fb,hv,lv,hB0,hF0,hH0,hG0,o1,o2,o3⟩:=h;unfold jS at hB0;have hgB:∀g,hv.ownBlock=some g->g≠B/\g<w.heap.size:=λg hg=>⟨hH0.ne_blk hB0 (by decide) hg,hH0.lt hg⟩
 have hgL:∀g,lv.ownBlock=some g->g≠B/\g<w.heap.size:=λg hg=>⟨hG0.ne_blk hB0 (by decide) hg,hG0.lt hg⟩
 have hgHL:∀g,lv.ownBlock=some g->hv.ownBlock≠some g:=λg h1 h2=>by have:=(o3 g h1).symm.trans (o2 g h2);simp at this
 obtain⟨ha,hn,hc,rfl⟩:=hH0.shape;obtain⟨la,ln,lc,rfl⟩:=hG0.shape
 obtain⟨xs,rest,hRel,hlx,hxb,hxf,hdel⟩:∃xs rest:List zy,yw L=({L with held:=rest,log:=L.log++xs},xs)/\xs.length<=L.held.length/\(L.blk=true->xs=[])/\(L.blk=false->xs=L.held)/\
  ∀W',Row W' 78 3 (.slice ha hn hc) L.held.length (L.held.flatMap zh)->Calls prog 313 #[.slice ha hn hc,.int .i64 0,.int .i64 (xs.length:Nat)] W' λe w'=>∃hv2,e=.returned hv2/\Mod (λk=>(Value.slice ha hn hc).ownBlock=some k) W' w'/\Row w' 78 3 hv2 rest.length (rest.flatMap zh)/\hv2.ownBlock=(Value.slice ha hn hc).ownBlock:=by
  unfold yw
  cases hb:L.blk
  ·refine⟨L.held,[],by simp,N0 _,λh=>(by cases h),λ_=>rfl,λW' hR=>?_⟩
   rcases hR.form with⟨h,h0, -⟩|⟨g,cap,h,h1,h2⟩
   ·cases h
    rw [h0];refine(Z5 _ ⟨none,0,0,rfl,by omega,by omega⟩ W').mono ?_;rintro e w1⟨rfl,rfl⟩;exact⟨_,rfl,Mod.refl _ _,z7 _ _ _,rfl⟩
   ·cases h
    by_cases h0:L.held.length=0
    ·unfold maxLen at h2
     have hl0:L.held=[]:=N9 h0;rw [hl0] at hR⊢;refine(Z5 _ ⟨_,_,_,rfl,by simp,by omega⟩ W').mono ?_;rintro e w1⟨rfl,rfl⟩;exact⟨_,rfl,Mod.refl _ _,hR,rfl⟩
    ·refine(zfk g _ hc _ (by omega) W' hR).mono ?_
     rintro e w1⟨rfl,h3,h4⟩;exact⟨_,rfl,h3.mono (λk _ e=>by subst e;rfl),h4,rfl⟩
  ·refine⟨[],L.held,by rw [if_pos rfl,List.append_nil,← hb],Nat.zero_le _,λ_=>rfl,λh=>(by cases h),λW' hR=>?_⟩
   refine(Z5 _ ⟨ha,hn,hc,rfl,?_⟩ W').mono ?_
   ·rcases hR.form with⟨h, -⟩|⟨g,cap,h,h1,h2⟩
    ·cases h;omega
    ·cases h;unfold maxLen at h2;omega
   ·rintro e w1⟨rfl,rfl⟩
    exact⟨_,rfl,Mod.refl _ _,hR,rfl⟩
 rw [hRel];have hlen:L.log.length+xs.length<=1073741824:=by omega
 have e0:=hB0.cell;have hlB:=hB0.lt;replace hF0:=hid hF0;replace hgB:=hid hgB;replace hgL:=hid hgL;replace hgHL:=hid hgHL;replace o2:=hid o2;replace o3:=hid o3;replace hk:=hid hk;replace hdel:=hid hdel;replace hRel:=hid hRel;replace hxb:=hid hxb;replace hxf:=hid hxf;refine zl func264 rfl ?_;simp only [ntmps264,R8,Nat.reduceAdd,Nat.reduceSub];go_wp2;go_step3;go_wp2;go_step3;go_wp2_with fail
 refine(zfl _ ⟨_,_,_,rfl⟩ _).mono ?_;rintro e w1⟨rfl,rfl⟩;go_wp2_with fail
 obtain⟨W0,hW0⟩:∃W0,W0=(((w.alloc (.cells #[.pointer (some ⟨B,0,none⟩)] 54)).alloc (.cells #[.slice none 0 0] 42)).alloc (.cells #[.slice ha hn hc] 42)):=⟨_,rfl⟩;have hsz:W0.heap.size=w.heap.size+3:=by rw [hW0];simp
 have hb0:Below w.heap.size w W0:=by rw [hW0];exact pbx
 have kpb0:Blk W0 w.heap.size #[.pointer (some ⟨B,0,none⟩)] 54:=by rw [hW0];exact bkx
 have knb0:Blk W0 (w.heap.size+1) #[.slice none 0 0] 42:=by rw [hW0];exact bkx
 have kcb0:Blk W0 (w.heap.size+1+1) #[.slice ha hn hc] 42:=by rw [hW0];exact bkx
 have hHW0:=hH0.below hb0;rw [← hW0];clear hW0 e0;refine zkc (id:=0) (λD W=>∃(k:Nat)(X:Nat->Prop),w.heap.size+3<=D/\X D/\L.held.take k=xs/\zfm L.held (w.heap.size+1) W0 k X W/\W.heap[D]?=some (.deferred (some []))) (λ_ _ h=>h) ?_ ?_
 ·refine yS (gf:=174) (lb:=#[.pointer (some ⟨w.heap.size+1+1,0,none⟩)]) rfl (enters_of func174 (by kernel_rfl) rfl)
   (Vu (w.heap.size+1+1) (.slice ha hn hc) L.held (by omega)) (λ_=>rfl)
   (λk X W=>zfm L.held (w.heap.size+1) W0 k X W/\(L.blk=true->k=0))
   (λc X W=>c=.exit 0/\L.blk=true/\zfm L.held (w.heap.size+1) W0 0 X W)
   (λk X X' W W' h hm hx=>⟨h.1.stab (by omega) hm hx,h.2⟩)
   (λc s X X' W W' h hm hx=>⟨h.1,h.2.1,h.2.2.stab (by omega) hm hx⟩)
   (λk X W h=>⟨kcb0.mod h.1.1.2 (by omega),(hHW0.mod h.1.1.2 (λg hg e=>by have:=(hgB.out g hg).2;omega)).src⟩)
   (λk X W h=>⟨by have:=h.1.1.2.size;omega,λk hk=>(h.1.1.1 k hk).2⟩)
   ⟨⟨Fr.refl _ _,Nat.zero_le _,_,knb0,z7 _ _ _,by simp [Value.ownBlock]⟩,λ_=>rfl⟩
   4 78 (λx=> #[.int .i64 x.1.1,.int .u32 x.1.2,.string (bs x.2)]) ?assign ?body ?done ?stop
  case assign=>
   intro l' x W K hK;rw [zZ] at hK⊢;unfold vo at hK⊢
   gi_wp2
   exact hK
  case body=>
   rintro l' k x cb X X1 W1 W h1⟨⟨hfr,hkk,pv,kp',kw',hnn⟩,hk0⟩ hnx hcb hcw hXc kx hXl _;obtain⟨⟨xi,xc⟩,xd⟩:=x;have kp:=kpb0.mod hfr.2 (by omega);have kB:=(hB0.call hb0).mod hfr.2 (by omega);have ep:=kp.cell;have eB:=kB.cell;have ex:=kx.cell;simp only at ex;have lx:=kx.lt;have ln':=kp'.lt;have en:=kp'.cell;have lp:=kp.lt;have lB:=kB.lt;have hkl:=(N6.1 hnx).1;have hlenA:(L.held.take k).length+1<=1073741824:=by rw [N7];omega
   replace hlenA:=hid hlenA;replace hnn:=hid hnn;rw [zZ];unfold vo
   cases hb:L.blk
   ·rw [hb] at eB
    replace hb:=hid hb
    gi_wp2_with (gi_at_builtin
                 obtain⟨nv',W3,hrun,hrow,hgr,hown⟩:=zT zcc (kw'.below ((N2 _ _).alloc (N0 _) (.cells #[.int .i64 xi,.int .u32 (xc:Int),.string (bs xd)] 78))) (jM (n:=1) (size:=3) (cap:=1) (Blk.new (w:=W) (cs:=#[.int .i64 xi,.int .u32 (xc:Int),.string (bs xd)]) (t:=78) rfl) rfl (N0 1)) (jq [((xi,xc),xd)]) hlenA.out 42;refine jQ rfl _ _ _ rfl rfl rfl hrun ?_;have kp3:Blk W3 (w.heap.size+1) #[pv] 42:=(kp'.alloc _).kept (hgr.block _ (by simp;omega) (λe=>by have:=(hnn.out _ e.symm).1;omega));have en3:=kp3.cell;have fn3:=kp3.frozen;have lN3:=kp3.lt;obtain⟨sa,sm,sc,rfl⟩:=hrow.shape
                 clear hrun)
    have hm:Mod (λk=>k=w.heap.size+1∨pv.ownBlock=some k) W (W3.setCell ⟨w.heap.size+1,0,none⟩ (.slice sa sm sc)):=
     (((Mod.refl (λk=>k=w.heap.size+1∨pv.ownBlock=some k) W).thenAlloc _).trans (Mod.grown hgr (λk h=>.inr h)) (λ_ _ e=>e) (λ_ _ e=>e)).thenSet (p:=⟨w.heap.size+1,0,none⟩) (.inl rfl) _
    have htk:L.held.take (k+1)=L.held.take k++ [((xi,xc),xd)]:=by rw [List.take_add_one,hnx];rfl
    refine⟨⟨hfr.mod hm (λk hk h=>?_),by omega,_,kp3.set _,?_,?_⟩,jB.of_mod hm (λk hk hX h=>?_)⟩
    ·rcases h with h|h
     ·exact h
     ·have:=(hnn.out k h).1;omega
    ·rw [htk]
     simp only [N1,U2,U5];refine Row.kept (w:=W3) hrow (λg hg=>N4 _ _ _ _ (show g≠w.heap.size+1 from λe=>?_));rw [hg] at hown
     rcases hown with h|h
     ·have:=(hnn.out _ h.symm).1;omega
     ·simp at h;omega
    ·intro g hg
     rw [hg] at hown
     rcases hown with h|h
     ·exact hnn.out g h.symm
     ·simp at h
      have:=hfr.2.size;exact⟨by omega,λhX=>by have:=(hfr.1 g hX).2;omega⟩
    ·have:=hfr.1 k hX
     rcases h with h|h
     ·omega
     ·exact(hnn.out k h).2 hX
   ·rw [hb] at eB
    obtain rfl:=hk0 hb;replace hb:=hid hb
    gi_wp2
    exact⟨⟨rfl,hfr,hkk,pv,kp',kw',hnn.out⟩,jB.refl _ _⟩
  case done=>
   rintro D k X W hD hXD hfin⟨hN,hk0⟩ hdef;have hfin':k=L.held.length:=hfin;refine⟨.inl rfl,D,rfl,k,X,by omega,hXD,?_,hN,hdef⟩
   cases hb:L.blk
   ·rw [hxf.out hb,hfin',List.take_length]
   ·rw [hxb.out hb,hk0 hb,List.take_zero]
  case stop=>
   rintro D c X W hD hXD⟨rfl,hb,hN⟩ hdef;exact wp_exit ⟨.inr rfl,D,rfl,0,X,by omega,hXD,by rw [hxb.out hb,List.take_zero],hN,hdef⟩
 ·rintro D W⟨k,X,hD,hXD,htk,⟨hfr,hkk,pv,kpv,kw',hnn⟩,hdef⟩
  rw [htk] at kw';obtain⟨pa,pc,rfl⟩:=kw'.src.shape;have hbW:Below w.heap.size w W:=hb0.trans (hfr.below (by omega) (λk hk=>by omega));have kpb:=kpb0.mod hfr.2 (by omega);have rowpv:=kw';have hDl:=(N5.1 hdef).1;have hDw:w.heap.size<=D:=by omega
  have hpvn:∀g,(Value.slice pa xs.length pc).ownBlock=some g->w.heap.size<=g/\g≠D:=λg hg=>⟨by have:=(hnn g hg).1;omega,λe=>(hnn g hg).2 (e ▸ hXD)⟩
  have hlB':=hlB;replace hgB:∀_,_:=hgB.out;replace hgL:∀_,_:=hgL.out;replace hgHL:∀_,_:=hgHL.out;clear hnn kw' hfr hkk;have kB:=hB0.call hbW;have hHW:=hH0.below hbW;have hGW:=hG0.below hbW;have hl1:=kpv.lt;have hl2:=kB.lt;have hl3:=kpb.lt;have hdelW:=hdel.out W.drew hHW;replace hdelW:=hid hdelW;replace hpvn:=hid hpvn;replace rowpv:=hid rowpv;replace hGW:=hid hGW;replace hHW:=hid hHW;have hDB:D≠B:=λe=>by omega
  have hnB:w.heap.size≠B:=λe=>by omega
  have hnB1:w.heap.size+1≠B:=λe=>by omega
  replace hdef:=hid hdef;replace hgB:=hid hgB;replace hgL:=hid hgL;replace hgHL:=hid hgHL;have kB':=kB;have kpb':=kpb;have kpv':=kpv;replace kB':=hid kB';replace kpb':=hid kpb';replace kpv':=hid kpv';go_wp2_with fail
  refine zd [O 0,O 1,O 2,O 3,O 4,O 5,O 6,E 7,O 8,O 9,E 10] (some 10) (λw'=>Blk w' (w.heap.size) #[.pointer (some ⟨B,0,none⟩)] 54/\Blk w' B #[.pointer (some ⟨fb,0,none⟩),.int .i64 L.st.1,.int .u32 L.st.2.1,.string (bs L.st.2.2),.bool L.blk,.slice ha hn hc,.slice la ln lc] 117/\Blk w' (w.heap.size+1) #[.slice pa xs.length pc] 42/\True) (by kernel_rfl) (by kernel_rfl) ⟨kpb,kB,kpv,trivial⟩ ?_;clear kB kpb kpv
  (repeat (refine za (v:=?_) rfl rfl (λw' h=>?_) (λK k=>?_);rotate_left;obtain⟨f1,f2,f3,_⟩:=h;have e1:=f1.cell;have e2:=f2.cell;have e3:=f3.cell;go_simp;(try with_reducible rfl);go_simp;refine k _ ?_;clear k K))
  refine zc rfl (λK hK=>?_);go_wp2_with fail
  refine hdelW.out.mono ?_;rintro e w1⟨hv2,rfl,hm,hR2,hown2⟩;obtain⟨ha2,hn2,hc2,rfl⟩:=hR2.shape;have kB1:=kB'.out.drew.mod hm (λe=>(hgB.out B e).1 rfl);have kpb1:=kpb'.out.drew.mod hm (λe=>by have:=(hgB.out _ e).2;omega);have kpv1:=kpv'.out.drew.mod hm (λe=>by have:=(hgB.out _ e).2;omega);go_wp2;refine hK.out _ _ (λ_=>⟨kpb1,kB1,kpv1,trivial⟩) ?_;clear hK K;have f1:=kB1.frozen;have c1:=kB1.cell;have l1:=kB1.lt;replace hR2:=hid hR2;replace hown2:=hid hown2
  (repeat (refine za (v:=?_) rfl rfl (λw' h=>?_) (λK k=>?_);rotate_left;obtain⟨f1,f2,f3,_⟩:=h;have e1:=f1.cell;have e2:=f2.cell;have e3:=f3.cell;go_simp;(try with_reducible rfl);go_simp;refine k _ ?_;clear k K))
  refine zc rfl (λK hK=>?_);go_wp2;refine hK.out _ _ (λh=>absurd rfl h) ?_;clear hK K f1 c1;refine ze ?_;go_wp2_with fail
  have kB2:=kB1.set (o:=5) (.slice ha2 hn2 hc2);have kpb2:=kpb1.other (p:=⟨B,5,none⟩) hnB (.slice ha2 hn2 hc2);have kpv2:=kpv1.other (p:=⟨B,5,none⟩) hnB1 (.slice ha2 hn2 hc2);obtain⟨W2,hW2⟩:∃W2,W2=w1.setCell ⟨B,5,none⟩ (.slice ha2 hn2 hc2):=⟨_,rfl⟩
  have hM2:Mod (λk=>k=B∨(Value.slice ha hn hc).ownBlock=some k∨(Value.slice la ln lc).ownBlock=some k) W W2:=by
   rw [hW2];exact((Mod.drew (λk=>k=B∨(Value.slice ha hn hc).ownBlock=some k∨(Value.slice la ln lc).ownBlock=some k) W).trans hm (λ_ _ e=>e) (λ_ _ e=>.inr (.inl e))).thenSet (p:=⟨B,5,none⟩) (.inl rfl) _
  have hset2:∀k,k≠B->W2.heap[k]?=w1.heap[k]?:=λk hk=>by rw [hW2];exact N4 _ _ _ _ hk
  have hG2:Row W2 78 3 (.slice la ln lc) L.log.length (L.log.flatMap zh):=(hGW.out.mod ((Mod.drew (λ_=>False) W).trans hm (Z:=λk=>(Value.slice ha hn hc).ownBlock=some k) (λ_ _ e=>e.elim) (λ_ _ e=>e)) (λg hg e=>hgHL.out g hg e)).kept (λg hg=>hset2 g (hgL.out g hg).1);have hp2:Row W2 78 3 (.slice pa xs.length pc) xs.length (xs.flatMap zh):=(rowpv.out.mod ((Mod.drew (λ_=>False) W).trans hm (Z:=λk=>(Value.slice ha hn hc).ownBlock=some k) (λ_ _ e=>e.elim) (λ_ _ e=>e)) (λg hg e=>by have:=(hpvn.out g hg).1;have:=(hgB.out g e).2;omega)).kept (λg hg=>hset2 g (λe=>by have:=(hpvn.out g hg).1;omega));have hH2:=hR2.out.kept (w':=W2) (λg hg=>hset2 g (hgB.out g (by rw [← hown2.out];exact hg)).1)
  have hdef2:W2.heap[D]?=some (.deferred (some [])):=by
   rw [hset2 D hDB,hm.block D (by simpa using hDl) (λe=>by have:=(hgB.out D e).2;omega)];exact hdef.out
  rw [← hW2] at kB2 kpb2 kpv2⊢;have hs2:W.heap.size<=W2.heap.size:=hM2.size;clear hW2 hm kB1 kpb1 kpv1 hR2 l1;obtain⟨lv',W3,hrun,hrow,hgr,hown⟩:=zT zcc (w:=W2.drew) hG2 hp2.src (jq xs) hlen 42;obtain⟨la3,ln3,lc3,rfl⟩:=hrow.shape;have kB3:=kB2.drew.kept (w':=W3) (hgr.block B kB2.lt (λe=>(hgL.out B e.symm).1 rfl));have kpb3:=kpb2.drew.kept (w':=W3) (hgr.block _ kpb2.lt (λe=>by have:=(hgL.out _ e.symm).2;omega));have kpv3:=kpv2.drew.kept (w':=W3) (hgr.block _ kpv2.lt (λe=>by have:=(hgL.out _ e.symm).2;omega));replace hrow:=hid hrow;replace hG2:=hid hG2;replace hp2:=hid hp2;replace hH2:=hid hH2;replace hown:=hid hown;replace hdef2:=hid hdef2;replace hset2:=hid hset2;replace hrun:=hid hrun;replace kB3:=hid kB3;replace kpb3:=hid kpb3;replace kpv3:=hid kpv3;refine zd [O 0,O 1,O 2,O 3,O 4,O 5,E 6,O 7,O 8,E 9] (some 9) (λw'=>Blk w' (w.heap.size) #[.pointer (some ⟨B,0,none⟩)] 54/\Blk w' B #[.pointer (some ⟨fb,0,none⟩),.int .i64 L.st.1,.int .u32 L.st.2.1,.string (bs L.st.2.2),.bool L.blk,.slice ha2 hn2 hc2,.slice la ln lc] 117/\Blk w' (w.heap.size+1) #[.slice pa xs.length pc] 42/\True) (by kernel_rfl) (by kernel_rfl) ⟨kpb2,kB2,kpv2,trivial⟩ ?_;clear kB2 kpb2 kpv2
  (repeat (refine za (v:=?_) rfl rfl (λw' h=>?_) (λK k=>?_);rotate_left;obtain⟨f1,f2,f3,_⟩:=h;have e1:=f1.cell;have e2:=f2.cell;have e3:=f3.cell;go_simp;(try with_reducible rfl);go_simp;refine k _ ?_;clear k K))
  refine zc rfl (λK hK=>?_);refine zw rfl _ _ _ rfl rfl rfl hrun.out ?_;unfold wpList;refine hK.out _ _ (λ_=>⟨kpb3.out,kB3.out,kpv3.out,trivial⟩) ?_;clear hK K;have f3:=kB3.out.frozen;have c3:=kB3.out.cell;have l3:=kB3.out.lt
  (repeat (refine za (v:=?_) rfl rfl (λw' h=>?_) (λK k=>?_);rotate_left;obtain⟨f1,f2,f3,_⟩:=h;have e1:=f1.cell;have e2:=f2.cell;have e3:=f3.cell;go_simp;(try with_reducible rfl);go_simp;refine k _ ?_;clear k K))
  refine zc rfl (λK hK=>?_);go_wp2;refine hK.out _ _ (λh=>absurd rfl h) ?_;clear hK K f3 c3;refine ze ?_;have kpv4:=kpv3.out.other (p:=⟨B,6,none⟩) hnB1 (.slice la3 ln3 lc3);have kB4:=kB3.out.set (o:=6) (.slice la3 ln3 lc3);have cp4:=kpv4.cell;replace kB4:=hid kB4;go_wp2;rw [Exit.noGoto_ret]
  have hg5:∀g,(Value.slice la3 ln3 lc3).ownBlock=some g->((Value.slice la ln lc).ownBlock=some g∨g=W2.heap.size):=λg hg=>by
   have:=hown.out;rw [hg] at this
   rcases this with h|h
   ·exact .inl h.symm
   ·right;simpa using h
  have hoth:∀k,k<W2.heap.size->k≠B->(Value.slice la ln lc).ownBlock≠some k->(W3.setCell ⟨B,6,none⟩ (.slice la3 ln3 lc3)).heap[k]?=W2.heap[k]?:=λk hk h1 h2=>
   (N4 _ _ _ _ h1).trans (hgr.block k hk (λe=>h2 e.symm))
  have hM4:Mod (λk=>k=B∨(Value.slice ha hn hc).ownBlock=some k∨(Value.slice la ln lc).ownBlock=some k) W (W3.setCell ⟨B,6,none⟩ (.slice la3 ln3 lc3)):=
   ((hM2.thenDrew).trans (Mod.grown (X:=λk=>(Value.slice la ln lc).ownBlock=some k) hgr (λk h=>h)) (λ_ _ e=>e) (λ_ _ e=>.inr (.inr e))).thenSet (p:=⟨B,6,none⟩) (.inl rfl) _
  have hM5:=(Mod.of_below (λk=>k=B∨(Value.slice ha hn hc).ownBlock=some k∨(Value.slice la ln lc).ownBlock=some k) hbW).trans hM4 (λ_ _ e=>e) (λ_ _ e=>e);have hdef4:(W3.setCell ⟨B,6,none⟩ (.slice la3 ln3 lc3)).heap[D]?=some (.deferred (some [])):=(hoth D (by omega) hDB (λe=>by have:=(hgL.out D e).2;omega)).trans hdef2.out;have hput:∀k,k≠D->((W3.setCell ⟨B,6,none⟩ (.slice la3 ln3 lc3)).putObj D (.deferred none)).heap[k]?=(W3.setCell ⟨B,6,none⟩ (.slice la3 ln3 lc3)).heap[k]?:=λk hk=>U1 hk
  have hpvl:∀g,(Value.slice pa xs.length pc).ownBlock=some g->g<W.heap.size:=λg hg=>rowpv.out.lt hg
  refine z8 (D:=D) (v:=.slice pa xs.length pc) hdef4 (by simp [results,Tryz.results264,go_sem]) ?_;refine⟨_,ow.ext w.heap.size (λk=>(Value.slice la3 ln3 lc3).ownBlock=some k) (t++ [2]),rfl,?_,⟨hk.out,fb,.slice ha2 hn2 hc2,.slice la3 ln3 lc3,kB4.out.putObj (Ne.symm hDB) _,?_,?_,?_,?_,?_,?_⟩,?_,?_⟩
  ·refine zq.putNew ⟨hM5.mono (λk _ e=>?_),λk hk=>Own.ext_old hk⟩ D _ hDw
   rcases e with e|e|e
   ·subst e;rw [o1];exact Sub.rfl' t
   ·rw [o2.out k e];exact Sub.child t 1
   ·rw [o3.out k e];exact Sub.child t 2
  ·refine zH.loc fb L.fold (t++ [0]) _ _ _ _ hF0.out (by have:=hM5.size;simpa using this) (λk hk1 hs=>⟨Own.ext_old hk1,(hput k (by omega)).trans (hM5.block k hk1 (λe=>?_))⟩)
   rcases e with e|e|e
   ·subst e;rw [o1] at hs;exact zQ t 0 hs
   ·rw [o2.out k e] at hs;exact(zP t (show(0:Nat)≠1 by omega)).1 hs
   ·rw [o3.out k e] at hs;exact(zP t (show(0:Nat)≠2 by omega)).1 hs
  ·refine hH2.out.kept (λg hg=>?_)
   have h1:(Value.slice ha hn hc).ownBlock=some g:=by rw [← hown2.out];exact hg
   rw [hput g (by have:=(hgB.out g h1).2;omega)];exact hoth g (hH2.out.lt hg) (hgB.out g h1).1 (λe=>hgHL.out g e h1)
  ·simp only [N1,U5]
   refine hrow.out.kept (λg hg=>?_)
   have h1:g≠B/\g≠D:=by
    rcases hg5 g hg with h|h
    ·have:=hgL.out g h;omega
    ·have:=hM2.size;omega
   rw [hput g h1.2];exact N4 _ _ _ _ h1.1
  ·rw [Own.ext_old hB0.lt,o1]
  ·intro g hg
   have h1:(Value.slice ha hn hc).ownBlock=some g:=by rw [← hown2.out];exact hg
   rw [Own.ext_old (hgB.out g h1).2,o2.out g h1]
  ·intro g hg
   rcases hg5 g hg with h|h
   ·rw [Own.ext_old (hgL.out g h).2,o3.out g h]
   ·rw [Own.ext_new (by have:=hbW.size;omega) hg]
  ·refine hp2.out.kept (λg hg=>?_)
   have h1:=hpvn.out g hg;rw [hput g h1.2];exact hoth g (by have:=hpvl g hg;omega) (by omega) (λe=>by have:=(hgL.out g e).2;omega)
  ·intro g hg
   have h1:=hpvn.out g hg;refine⟨h1.1,Own.ext_none h1.1 (λe=>?_)⟩;have h2:=hpvl g hg
   rcases hg5 g e with h|h
   ·have:=(hgL.out g h).2;omega
   ·omega
end
open Go Go.RowKit Go.Shelf Go.Extern.Stop Go.Stop Go.Extern
attribute [local go_sem] Oper.semAt_some zv zm
def zi2(L:zR)(t:List Nat)(ow:Own)(w:World)(e:Ending)(w':World):Prop:=
 ∃B ow',e=.returned (.tuple #[.pointer (some ⟨B,0,none⟩),.int .i64 0])/\zq t ow w ow' w'/\Below w.heap.size w w'/\zI B L t ow' w'
theorem zhf {v:Int}(h:known v=true):∃d,zdN v=((v,0,d),0):=by
 have:v=1∨v=2∨v=3:=by simp [known] at h;omega
 rcases this with rfl|rfl|rfl<;>exact⟨_,rfl⟩
def zt(v:Int):StD:=(zdN v).1
theorem zi3(a:Addr)(v:Int)(hv:known v=true)(t:List Nat)(ow:Own)(w:World)(he:jE w a):Calls prog 87 #[.int .i64 v] w (zi2 (zh9 v (zt v)) t ow w):=by
 obtain⟨d,hd⟩:=zhf hv;have hst:zt v=(v,0,d):=by unfold zt;rw [hd]
 have hn:=ziw v hv (t++ [0]) (ow.cut w) w;have hbg:=λW (hW:Below w.heap.size w W)=>ziE (a:=a) hd W (he.below hW he.lt)
 rw [hst];replace hn:=hid hn;replace hbg:=hid hbg;replace hd:=hid hd;replace hst:=hid hst;replace hv:=hid hv
 go_enter func87,ntmps87
 go_wp2_with fail
 refine hn.out.mono ?_;rintro e w1⟨fb,ow1,rfl,hs1,hb1,hF1⟩;replace hF1:=hid hF1;go_wp2_with fail
 refine(hbg.out _ hb1).mono ?_;rintro e w2⟨rfl,hb2⟩;go_wp2;have hbw:Below w.heap.size w w2:=zg hb1 hb2;have hz1:=hb1.size;have hz2:=hb2.size;refine bodyPost_ret (v:=.tuple #[.pointer (some ⟨w2.heap.size+1,0,none⟩),.int .i64 0]) (by simp [results,Tryz.results87,go_sem]) rfl ?_;refine⟨w2.heap.size+1,λk=>if k=w2.heap.size+1 then t else ow1.cut w1 k,rfl,⟨Mod.of_below _ (zi (zi hbw _) _),λk hk=>?_⟩,zi (zi hbw _) _,hv.out,fb,.slice none 0 0,.slice none 0 0,Blk.new (by simp),?_,z7 _ _ _,z7 _ _ _,if_pos rfl,by simp [Value.ownBlock],by simp [Value.ownBlock]⟩
 ·show(if k=w2.heap.size+1 then t else ow1.cut w1 k)=ow k
  rw [if_neg (by omega),Own.cut_old (by omega),hs1.agree k hk,Own.cut_old hk]
 ·refine zH.loc fb _ (t++ [0]) ow1 _ w1 _ hF1.out (by simp;omega) (λk hk hs=>⟨?_,?_⟩)
  ·show(if k=w2.heap.size+1 then t else ow1.cut w1 k)=ow1 k
   rw [if_neg (by omega),Own.cut_old hk]
  ·exact(zi (zi hb2 _) _).block k hk
theorem jE.step {t:List Nat}(ht:t≠ []){ow ow':Own}{w w':World}{a:Addr}(h:jE w a)(hs:zq t ow w ow' w')(ho:ow 2=[]):jE w' a:=
 (hs.cell (p:=⟨2,0,none⟩) h.lt (by rw [ho];exact zj ht)).trans h
theorem zI.fold {B fb:Nat}{L:zR}{f':yJ}{t:List Nat}{ow ow':Own}{w w':World}{hv lv:Value}(hk:known L.st.1=true)(hB:Blk w B (jS fb hv lv L) 117)
 (hH:Row w 78 3 hv L.held.length (L.held.flatMap zh)) (hG:Row w 78 3 lv L.log.length (L.log.flatMap zh)) (o1:ow B=t) (o2:∀g,hv.ownBlock=some g->ow g=t++ [1]) (o3:∀g,lv.ownBlock=some g->ow g=t++ [2])
 (hs:zq (t++ [0]) ow w ow' w') (hF:zH fb f' (t++ [0]) ow' w'):zI B {L with fold:=f'} t ow' w':=by
 refine⟨hk,fb,hv,lv,hB.kept (hs.block hB.lt (by rw [o1];exact zQ t 0)),hF,?_,?_,(hs.agree B hB.lt).trans o1,λg hg=>(hs.agree g (hH.lt hg)).trans (o2 g hg),λg hg=>(hs.agree g (hG.lt hg)).trans (o3 g hg)⟩
 ·exact hH.step hs (λg hg e=>by rw [o2 g hg] at e;exact(zP t (show(0:Nat)≠1 by omega)).1 e)
 ·exact hG.step hs (λg hg e=>by rw [o3 g hg] at e;exact(zP t (show(0:Nat)≠2 by omega)).1 e)
def Qm(B:Nat)(t:List Nat)(ow:Own)(w:World)(R:zR×List zy×Int)(e:Ending)(w':World):Prop:=
 ∃v ow',e=.returned (.tuple #[v,.int .i64 R.2.2])/\zq t ow w ow' w'/\zI B R.1 t ow' w'/\Row w' 78 3 v R.2.1.length (R.2.1.flatMap zh)/\(∀g,v.ownBlock=some g->w.heap.size<=g/\ow' g=[])
theorem zfn(a:Addr)(B:Nat)(L:zR)(t:List Nat)(ht:t≠ [])(ow:Own)(e:jy)(mv:Value)(fails:Bool)(w:World)(he:jE w a)(hge:ow 2=[])(h:zI B L t ow w)
 (hm:x8 w mv e.msgs) (hmt:∀a l c,mv=.slice (some a) l c->¬Sub t (ow a.block)) (hl:qz L.fold.book+64<=268435456) (hl2:L.fold.eras.length<=536870911) (hm2:e.msgs.length<=1073741824) (hct:0<=L.fold.count/\L.fold.count<=1073741824)
 (hl3:L.held.length+L.log.length+(jX L.fold e).2.1.length<=268435456) (hl4:(jX L.fold e).1.eras.length<=536870912):
 Calls prog 214 #[.pointer (some ⟨B,0,none⟩),qV e mv,.bool fails] w (Qm B t ow w (j6 L e fails)):=by
 obtain⟨R,hRR⟩:∃R,j6 L e fails=R:=⟨_,rfl⟩;rw [hRR];unfold j6 at hRR;have hnil:=λW (hW:Below w.heap.size w W)=>Zt B L t ow W ((zI.loc B L t).below h hW)
 obtain⟨hk,fb,hv,lv,hB0,hF0,hH0,hG0,o1,o2,o3⟩:=h;obtain⟨W1,hW1⟩:∃W1,W1=(w.alloc (.cells #[.int .i64 e.kind,.int .u32 e.epoch,.int .i64 e.ver,mv] 241)).drew:=⟨_,rfl⟩;have hb1:Below w.heap.size w W1:=by rw [hW1];exact pbx
 have kx:Blk W1 w.heap.size #[.int .i64 e.kind,.int .u32 e.epoch,.int .i64 e.ver,mv] 241:=by rw [hW1];exact bkx
 have hBl:=hB0.lt;have kB:=hB0.call hb1;have htc:t++ [0] ≠ []:=by simp
 have hsub:∀k,k<w.heap.size->ow.cut w k=ow k:=λk hk=>Own.cut_old hk
 have hap:=zgC fb L.fold (t++ [0]) htc (ow.cut w) e mv W1 ((zH.loc fb L.fold (t++ [0])).cut hF0 hb1) (hm.below hb1) (λa l c h hs=>by
  rcases Nat.lt_or_ge a.block w.heap.size with h1|h1
  ·rw [Own.cut_old h1] at hs;exact hmt a l c h ((Sub.child t 0).trans hs)
  ·rw [Own.cut_new h1] at hs;exact zj htc hs) (by omega) (by omega) hm2 hct
 obtain⟨⟨f',ms,bg,er⟩,hA⟩:∃A,jX L.fold e=A:=⟨_,rfl⟩;rw [hA] at hap hRR hl3 hl4;unfold qV at hap⊢;have hfo:=λ(ow':Own)(w':World)(hs:zq (t++ [0]) (ow.cut w) W1 ow' w') (hF:zH fb f' (t++ [0]) ow' w')=>zI.fold (ow:=ow.cut w) hk kB (hH0.below hb1) (hG0.below hb1) (by rw [hsub B hBl,o1]) (λg hg=>by rw [hsub g (hH0.lt hg),o2 g hg]) (λg hg=>by rw [hsub g (hG0.lt hg),o3 g hg]) hs hF
 have o1':ow.cut w B=t:=by rw [hsub B hBl,o1]
 have heW:=he.below hb1 he.lt;have hge1:ow.cut w 2=[]:=by rw [hsub _ he.lt,hge]
 simp only at hRR hl3 hl4;unfold jS at kB;replace hfo:=hid hfo;replace hap:=hid hap;replace hnil:=hid hnil;replace hA:=hid hA;replace hge1:=hid hge1;replace o1':=hid o1';replace heW:=hid heW;replace hl4:=hid hl4;clear hF0 hB0 hH0 hG0 o1 o2 o3 hm hmt he hge hk hsub
 by_cases her:er=0
 ·subst her
  rw [if_neg (by simp)] at hRR;have hmid:zh8 L (f',ms,bg,0) fails=(if bg then ya {L with fold:=f'} (vk f'.eras).2.1 fails else {L with fold:=f'}):=rfl;rw [hmid] at hRR;clear hmid
  cases bg
  ·simp only [Bool.false_eq_true,if_false] at hRR
   have hfin:=hRR;clear hRR;replace hfin:=hid hfin
   go_enter func214,ntmps214
   go_wp2_with fail
   refine(hnil.out _ (pbx)).mono ?_;rintro r w1⟨rfl,rfl⟩;go_wp2_with fail
   refine zd [O 0,O 1,O 2,O 3,O 4,O 5,E 6,O 7,O 8,O 9,O 10,O 11,O 12,O 13] none (λw'=>Blk w' w.heap.size #[.int .i64 e.kind,.int .u32 e.epoch,.int .i64 e.ver,mv] 241/\Blk w' B #[.pointer (some ⟨fb,0,none⟩),.int .i64 L.st.1,.int .u32 L.st.2.1,.string (bs L.st.2.2),.bool L.blk,hv,lv] 117/\True) (by kernel_rfl) (by kernel_rfl) (by rw [← hW1];exact⟨kx,kB,trivial⟩) ?_;rw [← hW1];clear hW1
   (repeat (refine za (v:=?_) rfl rfl (λw' h=>?_) (λK k=>?_);rotate_left;obtain⟨f1,f2,_⟩:=h;have e1:=f1.cell;have e2:=f2.cell;go_simp;(try with_reducible rfl);go_simp;refine k _ ?_;clear k K))
   refine zc rfl (λK hK=>?_);go_wp2_with fail
   refine hap.out.mono ?_;rintro r w2⟨nv,ow2,rfl,hs2,hF2,hR2,hn2⟩;have hL1:=hfo.out ow2 w2 hs2 hF2;have hst2:zq t ow w ow2 w2:=(zq.wrap hb1 hs2).mono (Sub.child t 0);have hE2:=heW.out.step htc hs2 hge1.out;replace hE2:=hid hE2;have kx2:=kx.kept (hs2.free htc (N0 _) kx.lt).1;have kB2:=kB.kept (hs2.block kB.lt (by rw [o1'.out];exact zQ t 0));replace hL1:=hid hL1;replace hn2:=hid hn2;go_wp2;refine hK.out _ _ (λ_=>⟨kx2,kB2,trivial⟩) ?_;clear hK K hs2 hF2 kx2 kB2 kx kB heW hfo hap hnil
   (repeat (refine za (v:=?_) rfl rfl (λw' h=>?_) (λK k=>?_);rotate_left;obtain⟨f1,f2,_⟩:=h;have e1:=f1.cell;have e2:=f2.cell;go_simp;(try with_reducible rfl);go_simp;refine k _ ?_;clear k K))
   refine ze ?_;have hL2:=hL1.out;have hb3:({L with fold:=f'} :zR).held.length+ms.length<=1073741824:=by show L.held.length+ms.length<=_;omega
   have hb4:(qo {L with fold:=f'} ms).held.length+(qo {L with fold:=f'} ms).log.length<=536870912:=by simp only [qo,N1];omega
   have hst3:=hst2;have hR3:=hR2
   generalize({L with fold:=f'} :zR)=L2 at*
   have hho:=zaX B L2 t ow2 nv ms w2 hL2 hR3.src hb3;replace hho:=hid hho;go_wp2_with fail
   refine hho.out.mono ?_;rintro r w4⟨rfl,ow4,hs4,hL4⟩;have hre:=V7 B (qo L2 ms) t ht ow4 w4 hL4 hb4;replace hre:=hid hre;replace hL4:=hid hL4;go_wp2_with fail
   refine hre.out.mono ?_;rintro r w5⟨v5,ow5,rfl,hs5,hL5,hR5,hn5⟩;replace hL5:=hid hL5;replace hn5:=hid hn5;go_wp2;refine bodyPost_ret (v:=.tuple #[v5,.int .i64 0]) (by simp [results,Tryz.results214,go_sem]) rfl ?_;rw [← hfin.out];exact⟨v5,ow5,rfl,(hst3.trans hs4).trans hs5,hL5.out,hR5,λg hg=>⟨by have:=(hn5.out g hg).1;have:=hst3.size;have:=hs4.size;omega,(hn5.out g hg).2⟩⟩
  ·simp only [if_true] at hRR
   have hfin:=hRR;clear hRR;obtain⟨⟨ep,ve,st⟩,hn⟩:∃n,vk f'.eras=n:=⟨_,rfl⟩;rw [hn] at hfin;simp only at hfin;have hf1:=zgs ep ve st;replace hfin:=hid hfin
   go_enter func214,ntmps214
   go_wp2_with fail
   refine(hnil.out _ (pbx)).mono ?_;rintro r w1⟨rfl,rfl⟩;go_wp2_with fail
   refine zd [O 0,O 1,O 2,O 3,O 4,O 5,E 6,O 7,O 8,O 9,O 10,O 11,O 12,O 13] none (λw'=>Blk w' w.heap.size #[.int .i64 e.kind,.int .u32 e.epoch,.int .i64 e.ver,mv] 241/\Blk w' B #[.pointer (some ⟨fb,0,none⟩),.int .i64 L.st.1,.int .u32 L.st.2.1,.string (bs L.st.2.2),.bool L.blk,hv,lv] 117/\True) (by kernel_rfl) (by kernel_rfl) (by rw [← hW1];exact⟨kx,kB,trivial⟩) ?_;rw [← hW1];clear hW1
   (repeat (refine za (v:=?_) rfl rfl (λw' h=>?_) (λK k=>?_);rotate_left;obtain⟨f1,f2,_⟩:=h;have e1:=f1.cell;have e2:=f2.cell;go_simp;(try with_reducible rfl);go_simp;refine k _ ?_;clear k K))
   refine zc rfl (λK hK=>?_);go_wp2_with fail
   refine hap.out.mono ?_;rintro r w2⟨nv,ow2,rfl,hs2,hF2,hR2,hn2⟩;have hL1:=hfo.out ow2 w2 hs2 hF2;have hst2:zq t ow w ow2 w2:=(zq.wrap hb1 hs2).mono (Sub.child t 0);have hE2:=heW.out.step htc hs2 hge1.out;replace hE2:=hid hE2;have kx2:=kx.kept (hs2.free htc (N0 _) kx.lt).1;have kB2:=kB.kept (hs2.block kB.lt (by rw [o1'.out];exact zQ t 0));replace hL1:=hid hL1;replace hn2:=hid hn2;go_wp2;refine hK.out _ _ (λ_=>⟨kx2,kB2,trivial⟩) ?_;clear hK K hs2 hF2 kx2 kB2 kx kB heW hfo hap hnil
   (repeat (refine za (v:=?_) rfl rfl (λw' h=>?_) (λK k=>?_);rotate_left;obtain⟨f1,f2,_⟩:=h;have e1:=f1.cell;have e2:=f2.cell;go_simp;(try with_reducible rfl);go_simp;refine k _ ?_;clear k K))
   refine ze ?_;have hnow:=QU B {L with fold:=f'} t ow2 w2 hL1.out hl4.out;simp only [hn] at hnow;unfold Js at hnow;replace hnow:=hid hnow;replace hn:=hid hn;go_wp2_with fail
   refine hnow.out.mono ?_;rintro r w6⟨rfl,hb6⟩;have hmig:=zaW a B {L with fold:=f'} t ow2 ve fails w6 (hE2.out.below hb6 hE2.out.lt) ((zI.loc B _ t).below hL1.out hb6);have hb3:(ya {L with fold:=f'} ve fails).held.length+ms.length<=1073741824:=by show L.held.length+ms.length<=_;omega
   have hb4:(qo (ya {L with fold:=f'} ve fails) ms).held.length+(qo (ya {L with fold:=f'} ve fails) ms).log.length<=536870912:=by simp only [qo,ya,N1];omega
   generalize ya {L with fold:=f'} ve fails=L2 at*
   replace hmig:=hid hmig;go_wp2_with fail
   refine hmig.out.mono ?_;rintro r w3⟨rfl,ow3,hs3,hL2⟩;have hst3:=(hst2.trans (zq.of_below t ow2 hb6)).trans hs3;have hR3:=(hR2.below hb6).step hs3 (λg hg e=>by rw [(hn2.out g hg).2] at e;exact zj ht e);have hho:=zaX B L2 t ow3 nv ms w3 hL2 hR3.src hb3;replace hho:=hid hho;go_wp2_with fail
   refine hho.out.mono ?_;rintro r w4⟨rfl,ow4,hs4,hL4⟩;have hre:=V7 B (qo L2 ms) t ht ow4 w4 hL4 hb4;replace hre:=hid hre;replace hL4:=hid hL4;go_wp2_with fail
   refine hre.out.mono ?_;rintro r w5⟨v5,ow5,rfl,hs5,hL5,hR5,hn5⟩;replace hL5:=hid hL5;replace hn5:=hid hn5;go_wp2;refine bodyPost_ret (v:=.tuple #[v5,.int .i64 0]) (by simp [results,Tryz.results214,go_sem]) rfl ?_;rw [← hfin.out];exact⟨v5,ow5,rfl,(hst3.trans hs4).trans hs5,hL5.out,hR5,λg hg=>⟨by have:=(hn5.out g hg).1;have:=hst3.size;have:=hs4.size;omega,(hn5.out g hg).2⟩⟩
 ·rw [if_pos (by simpa using her)] at hRR
  have t1:(er !=0)=true:=by simpa using her
  have hfin:=hRR;clear hRR;replace hfin:=hid hfin;replace her:=hid her
  go_enter func214,ntmps214
  go_wp2_with fail
  refine(hnil.out _ (pbx)).mono ?_;rintro r w1⟨rfl,rfl⟩;go_wp2_with fail
  refine zd [O 0,O 1,O 2,O 3,O 4,O 5,E 6,O 7,O 8,O 9,O 10,O 11,O 12,O 13] none (λw'=>Blk w' w.heap.size #[.int .i64 e.kind,.int .u32 e.epoch,.int .i64 e.ver,mv] 241/\Blk w' B #[.pointer (some ⟨fb,0,none⟩),.int .i64 L.st.1,.int .u32 L.st.2.1,.string (bs L.st.2.2),.bool L.blk,hv,lv] 117/\True) (by kernel_rfl) (by kernel_rfl) (by rw [← hW1];exact⟨kx,kB,trivial⟩) ?_;rw [← hW1];clear hW1
  (repeat (refine za (v:=?_) rfl rfl (λw' h=>?_) (λK k=>?_);rotate_left;obtain⟨f1,f2,_⟩:=h;have e1:=f1.cell;have e2:=f2.cell;go_simp;(try with_reducible rfl);go_simp;refine k _ ?_;clear k K))
  refine zc rfl (λK hK=>?_);go_wp2_with fail
  refine hap.out.mono ?_;rintro r w2⟨nv,ow2,rfl,hs2,hF2,hR2,hn2⟩;have hL1:=hfo.out ow2 w2 hs2 hF2;have hst2:zq t ow w ow2 w2:=(zq.wrap hb1 hs2).mono (Sub.child t 0);have hE2:=heW.out.step htc hs2 hge1.out;replace hE2:=hid hE2;have kx2:=kx.kept (hs2.free htc (N0 _) kx.lt).1;have kB2:=kB.kept (hs2.block kB.lt (by rw [o1'.out];exact zQ t 0));replace hL1:=hid hL1;replace hn2:=hid hn2;go_wp2;refine hK.out _ _ (λ_=>⟨kx2,kB2,trivial⟩) ?_;clear hK K hs2 hF2 kx2 kB2 kx kB heW hfo hap hnil
  (repeat (refine za (v:=?_) rfl rfl (λw' h=>?_) (λK k=>?_);rotate_left;obtain⟨f1,f2,_⟩:=h;have e1:=f1.cell;have e2:=f2.cell;go_simp;(try with_reducible rfl);go_simp;refine k _ ?_;clear k K))
  refine ze ?_;go_wp2;refine bodyPost_ret (v:=.tuple #[.slice none 0 0,.int .i64 er]) (by simp [results,Tryz.results214,go_sem]) rfl ?_;rw [← hfin.out];exact⟨_,ow2,rfl,hst2,hL1.out,z7 _ _ _,by simp [Value.ownBlock]⟩
