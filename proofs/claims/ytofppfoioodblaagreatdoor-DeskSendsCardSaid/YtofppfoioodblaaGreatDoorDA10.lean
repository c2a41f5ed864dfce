/- PARTS OF THE PROOF. -/
import Derived.Lib.SliceRun
import Derived.Test.YtofppfoioodblaaGreatDoorDA09
set_option maxRecDepth 8000
set_option maxHeartbeats 4000000
open Go.Proofs.Tryz
namespace Go.Proofs.YtofppfoioodblaaGreatDoor
section
open Go Go.RowKit Go.Shelf Go.Extern.Stop Go.Stop Go.Extern
attribute [local go_sem] Oper.semAt_some zB zo
theorem zdU(a b:Option Addr)(c c':Nat)(ty:TypeId)(w:World):(Builtin.append_ #[42,42] ty #[.slice a 0 c,.slice b 0 c']).run prog w=.ok (.slice a 0 c) w:=by
 obtain⟨i,hi,ab,ac,aa⟩:=info_parts zdI.info
 cases a<;>cases b<;>simp [Builtin.append_,run_underlying zdI.under,sizeOf,typeInfo,hi,Builtin.lenOf,Builtin.firstCells,loadCells,loadCellsFrom,storeCells]
theorem Zg(g:Nat):∀(vs:List Value)(o:Nat)(w:World)(cur:Array Value)(e:TypeId),w.heap[g]?=some (.cells cur e (0,0))->
 (∃cur',(w.setCells g o vs).heap[g]?=some (.cells cur' e (0,0))/\cur'.size=cur.size)/\Mod (λk=>k=g) w (w.setCells g o vs)
 | [],_,w,cur,e,h=>⟨⟨cur,h,rfl⟩,Mod.refl _ _⟩
 |v::vs,o,w,cur,e,h=>by
  have h1:Blk (w.setCell ⟨g,o,none⟩ v) g (cur.setIfInBounds o v) e:=Blk.set (w:=w) h v;obtain⟨⟨cur',h2,h3⟩,h4⟩:=Zg g vs (o+1) _ _ e h1;refine⟨⟨cur',h2,by simpa using h3⟩,(Mod.setCell (X:=λk=>k=g) w ⟨g,o,none⟩ v rfl).trans h4 (λ_ _ e=>e) (λ_ _ e=>e)⟩
theorem zfT {w:World}{g n cap:Nat}{cur:Array Value}(hn:0<n)(h:w.heap[g]?=some (.cells cur 78 (0,0)))(hs:n*3<=cur.size)(ty:TypeId):
 (Builtin.clear_ #[42] ty #[.slice (some ⟨g,0,none⟩) n cap]).run prog w=.ok (.tuple #[]) (w.setCells g 0 (Builtin.zeroCells #[.int .i64 0,.int .u32 0,.string ⟨#[]⟩] n).toList):=by
 have hb:Blk w g cur 78:=h;have hv:∀w:World,(zeroValue 78).run prog w=.ok (.agg #[.int .i64 0,.int .u32 0,.string ⟨#[]⟩]) w:=λw=>by kernel_rfl
 have aa:(Builtin.zeroCells #[.int .i64 0,.int .u32 0,.string ⟨#[]⟩] n).toList.length=n*3:=by simp [Builtin.zeroCells]
 have ab:=run_storeCells_cells (P:=prog) g 0 (Builtin.zeroCells #[.int .i64 0,.int .u32 0,.string ⟨#[]⟩] n).toList 0 w
  (λj hj=>by rw [hb.cell];simp;rw [aa] at hj;omega) (λj hj=>hb.frozen _) (λu hu=>by
   simp [Builtin.zeroCells] at hu
   obtain⟨i,hi,rfl⟩:=hu;have:i % 3=0∨i % 3=1∨i % 3=2:=by omega
   rcases this with h|h|h<;>rw [h] <;>rfl)
 obtain⟨m,rfl⟩:∃m,n=m+1:=⟨n - 1,by omega⟩;simp only [Nat.add_zero] at ab;simp [Builtin.clear_,run_underlying zdI.under,hv,Value.cells,ab]
theorem JP(v:Value)(hv:∃a n c,v=.slice a n c/\n<=c/\c<=9223372036854775807)(w:World):Calls prog 313 #[v,.int .i64 0,.int .i64 0] w λe w'=>e=.returned v/\w'=w:=by
 obtain⟨a,n,c,rfl,h1,h2⟩:=hv;have y0:(n:Int)<=c:=by omega
 have y1:(c:Int)<=9223372036854775807:=by omega
 go_enter func313,ntmps313
 go_wp2;go_ret
 exact⟨rfl,rfl⟩
def zhW(g cap:Nat)(w:World)(e:Ending)(w':World):Prop:=
 e=.returned (.slice (some ⟨g,0,none⟩) 0 cap)/\Mod (λk=>k=g) w w'/\Row w' 78 3 (.slice (some ⟨g,0,none⟩) 0 cap) 0 []
theorem zfU(g n cap:Nat)(xs:List Value)(hn:0<n)(w:World)(h:Row w 78 3 (.slice (some ⟨g,0,none⟩) n cap) n xs):Calls prog 313 #[.slice (some ⟨g,0,none⟩) n cap,.int .i64 0,.int .i64 n] w (zhW g cap w):=by
 rcases h.2 with⟨h0, -⟩|⟨g',cap',cur,h0, -,hg,hc,hm,hs, -⟩
 ·cases h0
 cases h0
 unfold maxLen at hm;obtain⟨zs,af⟩:∃zs,(Builtin.zeroCells #[.int .i64 0,.int .u32 0,.string ⟨#[]⟩] n).toList=zs:=⟨_,rfl⟩
 have ah:∀ty,(Builtin.clear_ #[42] ty #[.slice (some ⟨g,0,none⟩) n cap]).run prog w.drew=.ok (.tuple #[]) (w.drew.setCells g 0 zs):=λty=>by
  rw [← af];exact zfT (w:=w.drew) hn hg (by rw [hs];exact Nat.mul_le_mul_right 3 hc) ty
 obtain⟨⟨ad,ae,ag⟩,ab⟩:=Zg g zs 0 w.drew cur 78 hg
 have aa:zhW g cap w (.returned (.slice (some ⟨g,0,none⟩) 0 cap)) (w.drew.setCells g 0 zs):=
  ⟨rfl,(Mod.drew _ w).trans ab (λ_ _ e=>e) (λ_ _ e=>e),rfl,.inr ⟨g,cap,ad,rfl,Nat.zero_le _,ae,Nat.zero_le _,by unfold maxLen;omega,by rw [ag,hs],by simp⟩⟩
 have y0:(n:Int)<=cap:=by omega
 have y1:(cap:Int)<=9223372036854775807:=by omega
 have y2:(0:Int)<n:=by omega
 have y3:((0:Int)==(n:Int))=false:=by simp;omega
 have ac:=zdU
 generalize hW:w.drew.setCells g 0 zs=W at*
 replace hW:=hid hW;replace aa:=hid aa;replace ac:=hid ac;clear h hg hs ae ag ab af
 by_cases hcn:cap=n
 ·subst hcn
  go_enter func313,ntmps313
  go_wp2_with fail
  refine zd [O 0,O 1,O 2,O 3,O 4,O 5,E 6,O 7] none (λ_=>True) (by kernel_rfl) (by kernel_rfl) trivial ?_
  refine Wh ?_
  refine zc rfl (λK hK=>?_);refine zv rfl _ _ _ rfl rfl rfl (ac.out _ _ _ _ _ _) ?_;unfold wpList;refine hK.out _ _ (λ_=>trivial) ?_;clear hK K
  refine Wh ?_
  refine zg ?_;go_wp2;go_ret
  exact aa.out
 
 go_enter func313,ntmps313
 go_wp2_with fail
 refine zd [O 0,O 1,O 2,O 3,O 4,O 5,E 6,O 7] none (λ_=>True) (by kernel_rfl) (by kernel_rfl) trivial ?_
 refine Wh ?_
 refine zc rfl (λK hK=>?_);refine zv rfl _ _ _ rfl rfl rfl (ac.out _ _ _ _ _ _) ?_;unfold wpList;refine hK.out _ _ (λ_=>trivial) ?_;clear hK K
 refine Wh ?_
 refine zg ?_;go_wp2;go_ret
 exact aa.out
theorem zfV(v:Value)(hv:∃a n c,v=.slice a n c)(w:World):Calls prog 312 #[v] w λe w'=>
 e=.returned (.func (.func 174) #[] #[.pointer (some ⟨w.heap.size,0,none⟩)])/\w'=w.alloc (.cells #[v] 42):=by
 obtain⟨a,n,c,rfl⟩:=hv
 go_enter func312,ntmps312
 go_wp2_with (go_at_call 133;refine(QX _ ⟨_,_,_,rfl⟩ _).mono ?_;rintro e w1 ⟨rfl,rfl⟩)
 go_ret
 exact⟨rfl,rfl⟩
def zlq(B:Nat)(R:zQ×List zx)(t:List Nat)(ow:Own)(w:World)(e:Ending)(w':World):Prop:=
 ∃v ow',e=.returned v/\zp t ow w ow' w'/\zL B R.1 t ow' w'/\Row w' 78 3 v R.2.length (R.2.flatMap zh)/\(∀g,v.ownBlock=some g->w.heap.size<=g/\ow' g=[])
theorem zlr {P:Program}{id:Nat}{c:Code}{Q:Exit->Act->World->Prop}{a:Act}{w:World}(Fa:Nat->World->Prop)(hx:∀a' W,Q .normal a' W->Q (.exit id) a' W)
 (h:c.wp P (λe a' W=>(e=.normal∨e=.exit id)/\∃D,a'={a with defers:={target:=.collected D,args:=#[] } ::a.defers} /\Fa D W) a w)
 (h2:∀D W,Fa D W->Q .normal {a with defers:={target:=.collected D,args:=#[] } ::a.defers} W):c.wp P Q a w:=
 wp_mono h (λe a' W ⟨he,D,ha,hf⟩=>by
  subst ha
  rcases he with rfl|rfl
  ·exact h2 D W hf
  exact hx _ _ (h2 D W hf))
def zfW(l:List zx)(pb:Nat)(W0:World)(k:Nat)(X:Nat->Prop)(W:World):Prop:=
 Fr (λk=>k=pb) W0 X W/\k<=l.length/\∃pv,Blk W pb #[pv] 42/\Row W 78 3 pv (l.take k).length ((l.take k).flatMap zh)/\(∀g,pv.ownBlock=some g->W0.heap.size<=g/\¬X g)
theorem zfW.stab {l:List zx}{pb:Nat}{W0:World}{k:Nat}{X X':Nat->Prop}{W W':World}(h1:pb<W0.heap.size)
 (h:zfW l pb W0 k X W) (hm:Mod X W W') (hx:∀k,X' k->X k∨(W.heap.size<=k/\k<W'.heap.size)):zfW l pb W0 k X' W':=by
 obtain⟨aa,hk,pv,kp,kw,hn⟩:=h;refine⟨aa.step hm hx,hk,pv,kp.kept (aa.block hm h1),kw.mod hm (λg hg=>(hn g hg).2),λg hg=>⟨(hn g hg).1,λhX=>?_⟩⟩
 rcases hx g hX with h|h
 ·exact(hn g hg).2 h
 have:=kw.lt hg;omega
theorem Xu(B:Nat)(L:zQ)(t:List Nat)(_ht:t≠ [])(ow:Own)(w:World)(h:zL B L t ow w)(hl:L.held.length+L.log.length<=536870912):
 Calls prog 264 #[.pointer (some ⟨B,0,none⟩)] w (zlq B (yD L) t ow w):=by
 obtain⟨hk,fb,hv,lv,a1,ch,bl,b1,o1,o2,o3⟩:=h;unfold jQ at a1;have af:∀g,hv.ownBlock=some g->g≠B/\g<w.heap.size:=λg hg=>⟨bl.ne_blk a1 (by decide) hg,bl.lt hg⟩
 have ag:∀g,lv.ownBlock=some g->g≠B/\g<w.heap.size:=λg hg=>⟨b1.ne_blk a1 (by decide) hg,b1.lt hg⟩
 have ab:∀g,lv.ownBlock=some g->hv.ownBlock≠some g:=λg h1 h2=>by have:=(o3 g h1).symm.trans (o2 g h2);simp at this
 obtain⟨ha,hn,hc,rfl⟩:=bl.shape;obtain⟨la,ln,lc,rfl⟩:=b1.shape
 obtain⟨xs,rest,a9,dh,bw,ci,a8⟩:∃xs rest:List zx,yD L=({L with held:=rest,log:=L.log++xs},xs)/\xs.length<=L.held.length/\(L.blk=true->xs=[])/\(L.blk=false->xs=L.held)/\
  ∀W',Row W' 78 3 (.slice ha hn hc) L.held.length (L.held.flatMap zh)->Calls prog 313 #[.slice ha hn hc,.int .i64 0,.int .i64 (xs.length:Nat)] W' λe w'=>∃bt,e=.returned bt/\Mod (λk=>(Value.slice ha hn hc).ownBlock=some k) W' w'/\Row w' 78 3 bt rest.length (rest.flatMap zh)/\bt.ownBlock=(Value.slice ha hn hc).ownBlock:=by
  unfold yD
  cases hb:L.blk
  ·refine⟨L.held,[],by simp,N0 _,λh=>(by cases h),λ_=>rfl,λW' hR=>?_⟩
   rcases hR.form with⟨h,h0, -⟩|⟨g,cap,h,h1,h2⟩
   ·cases h
    rw [h0];refine(JP _ ⟨none,0,0,rfl,by omega,by omega⟩ W').mono ?_;rintro e w1⟨rfl,rfl⟩;exact⟨_,rfl,Mod.refl _ _,jc _ _ _,rfl⟩
   cases h
   by_cases h0:L.held.length=0
   ·unfold maxLen at h2
    have cy:L.held=[]:=N9 h0;rw [cy] at hR⊢;refine(JP _ ⟨_,_,_,rfl,by simp,by omega⟩ W').mono ?_;rintro e w1⟨rfl,rfl⟩;exact⟨_,rfl,Mod.refl _ _,hR,rfl⟩
   refine(zfU g _ hc _ (by omega) W' hR).mono ?_
   rintro e w1⟨rfl,h3,h4⟩;exact⟨_,rfl,h3.mono (λk _ e=>by subst e;rfl),h4,rfl⟩
  refine⟨[],L.held,by rw [if_pos rfl,List.append_nil,← hb],Nat.zero_le _,λ_=>rfl,λh=>(by cases h),λW' hR=>?_⟩
  refine(JP _ ⟨ha,hn,hc,rfl,?_⟩ W').mono ?_
  ·rcases hR.form with⟨h, -⟩|⟨g,cap,h,h1,h2⟩
   ·cases h;omega
   cases h;unfold maxLen at h2;omega
  rintro e w1⟨rfl,rfl⟩
  exact⟨_,rfl,Mod.refl _ _,hR,rfl⟩
 rw [a9];have b6:L.log.length+xs.length<=1073741824:=by omega
 have e0:=a1.cell;have cx:=a1.lt;replace ch:=hid ch;replace af:=hid af;replace ag:=hid ag;replace ab:=hid ab;replace o2:=hid o2;replace o3:=hid o3;replace hk:=hid hk;replace a8:=hid a8;replace a9:=hid a9;replace bw:=hid bw;replace ci:=hid ci;refine zl func264 rfl ?_;simp only [ntmps264,R8,Nat.reduceAdd,Nat.reduceSub];go_wp2;go_step3;go_wp2;go_step3;go_wp2_with fail
 refine(zfV _ ⟨_,_,_,rfl⟩ _).mono ?_;rintro e w1⟨rfl,rfl⟩;go_wp2_with fail
 obtain⟨W0,bc⟩:∃W0,W0=(((w.alloc (.cells #[.pointer (some ⟨B,0,none⟩)] 54)).alloc (.cells #[.slice none 0 0] 42)).alloc (.cells #[.slice ha hn hc] 42)):=⟨_,rfl⟩;have c2:W0.heap.size=w.heap.size+3:=by rw [bc];simp
 have cj:Below w.heap.size w W0:=by rw [bc];exact pbx
 have bj:Blk W0 w.heap.size #[.pointer (some ⟨B,0,none⟩)] 54:=by rw [bc];exact bkx
 have cn:Blk W0 (w.heap.size+1) #[.slice none 0 0] 42:=by rw [bc];exact bkx
 have cm:Blk W0 (w.heap.size+1+1) #[.slice ha hn hc] 42:=by rw [bc];exact bkx
 have co:=bl.below cj;rw [← bc];clear bc e0;refine zlr (id:=0) (λD W=>∃(k:Nat)(X:Nat->Prop),w.heap.size+3<=D/\X D/\L.held.take k=xs/\zfW L.held (w.heap.size+1) W0 k X W/\W.heap[D]?=some (.deferred (some []))) (λ_ _ h=>h) ?_ ?_
 ·refine yV (gf:=174) (lb:=#[.pointer (some ⟨w.heap.size+1+1,0,none⟩)]) rfl (enters_of func174 (by kernel_rfl) rfl)
   (Xh (w.heap.size+1+1) (.slice ha hn hc) L.held (by omega)) (λ_=>rfl)
   (λk X W=>zfW L.held (w.heap.size+1) W0 k X W/\(L.blk=true->k=0))
   (λc X W=>c=.exit 0/\L.blk=true/\zfW L.held (w.heap.size+1) W0 0 X W)
   (λk X X' W W' h hm hx=>⟨h.1.stab (by omega) hm hx,h.2⟩)
   (λc s X X' W W' h hm hx=>⟨h.1,h.2.1,h.2.2.stab (by omega) hm hx⟩)
   (λk X W h=>⟨cm.mod h.1.1.2 (by omega),(co.mod h.1.1.2 (λg hg e=>by have:=(af.out g hg).2;omega)).src⟩)
   (λk X W h=>⟨by have:=h.1.1.2.size;omega,λk hk=>(h.1.1.1 k hk).2⟩)
   ⟨⟨Fr.refl _ _,Nat.zero_le _,_,cn,jc _ _ _,by simp [Value.ownBlock]⟩,λ_=>rfl⟩
   4 78 (λx=> #[.int .i64 x.1.1,.int .u32 x.1.2,.string (bs x.2)]) ?assign ?body ?done ?stop
  case assign=>
   intro l' x W K hK;rw [jf] at hK⊢;unfold vO at hK⊢
   gi_wp2
   exact hK
  case body=>
   rintro l' k x cb X X1 W1 W h1⟨⟨ao,b8,pv,b3,a6,al⟩,b9⟩ cq c5 df dc kx cz _;obtain⟨⟨xi,xc⟩,xd⟩:=x;have kp:=bj.mod ao.2 (by omega);have kB:=(a1.call cj).mod ao.2 (by omega);have ep:=kp.cell;have eB:=kB.cell;have ex:=kx.cell;simp only at ex;have lx:=kx.lt;have dd:=b3.lt;have en:=b3.cell;have lp:=kp.lt;have lB:=kB.lt;have c8:=(N6.1 cq).1;have ar:(L.held.take k).length+1<=1073741824:=by rw [N7];omega
   replace ar:=hid ar;replace al:=hid al;rw [jf];unfold vO
   cases hb:L.blk
   ·rw [hb] at eB
    replace hb:=hid hb
    gi_wp2_with (gi_at_builtin
                 obtain⟨c0,W3,aj,ah,a0,ae⟩:=zM zdI (a6.below ((N2 _ _).alloc (N0 _) (.cells #[.int .i64 xi,.int .u32 (xc:Int),.string (bs xd)] 78))) (jD (n:=1) (size:=3) (cap:=1) (Blk.new (w:=W) (cs:=#[.int .i64 xi,.int .u32 (xc:Int),.string (bs xd)]) (t:=78) rfl) rfl (N0 1)) (jA [((xi,xc),xd)]) ar.out 42;refine jO rfl _ _ _ rfl rfl rfl aj ?_;have bv:Blk W3 (w.heap.size+1) #[pv] 42:=(b3.alloc _).kept (a0.block _ (by simp;omega) (λe=>by have:=(al.out _ e.symm).1;omega));have de:=bv.cell;have c4:=bv.frozen;have db:=bv.lt;obtain⟨sa,sm,sc,rfl⟩:=ah.shape
                 clear aj)
    have hm:Mod (λk=>k=w.heap.size+1∨pv.ownBlock=some k) W (W3.setCell ⟨w.heap.size+1,0,none⟩ (.slice sa sm sc)):=
     (((Mod.refl (λk=>k=w.heap.size+1∨pv.ownBlock=some k) W).thenAlloc _).trans (Mod.grown a0 (λk h=>.inr h)) (λ_ _ e=>e) (λ_ _ e=>e)).thenSet (p:=⟨w.heap.size+1,0,none⟩) (.inl rfl) _
    have ce:L.held.take (k+1)=L.held.take k++ [((xi,xc),xd)]:=by rw [List.take_add_one,cq];rfl
    refine⟨⟨ao.mod hm (λk hk h=>?_),by omega,_,bv.set _,?_,?_⟩,jm.of_mod hm (λk hk hX h=>?_)⟩
    ·rcases h with h|h
     ·exact h
     have:=(al.out k h).1;omega
    ·rw [ce]
     simp only [N1,U2,U5];refine Row.kept (w:=W3) ah (λg hg=>N4 _ _ _ _ (show g≠w.heap.size+1 from λe=>?_));rw [hg] at ae
     rcases ae with h|h
     ·have:=(al.out _ h.symm).1;omega
     simp at h;omega
    ·intro g hg
     rw [hg] at ae
     rcases ae with h|h
     ·exact al.out g h.symm
     simp at h
     have:=ao.2.size;exact⟨by omega,λhX=>by have:=(ao.1 g hX).2;omega⟩
    have:=ao.1 k hX
    rcases h with h|h
    ·omega
    exact(al.out k h).2 hX
   rw [hb] at eB
   obtain rfl:=b9 hb;replace hb:=hid hb
   gi_wp2
   exact⟨⟨rfl,ao,b8,pv,b3,a6,al.out⟩,jm.refl _ _⟩
  case done=>
   rintro D k X W hD bh cf⟨hN,b9⟩ ac;have bp:k=L.held.length:=cf;refine⟨.inl rfl,D,rfl,k,X,by omega,bh,?_,hN,ac⟩
   cases hb:L.blk
   ·rw [ci.out hb,bp,List.take_length]
   rw [bw.out hb,b9 hb,List.take_zero]
  case stop=>
   rintro D c X W hD bh⟨rfl,hb,hN⟩ ac;exact wp_exit ⟨.inr rfl,D,rfl,0,X,by omega,bh,by rw [bw.out hb,List.take_zero],hN,ac⟩
 rintro D W⟨k,X,hD,bh,ce,⟨ao,b8,pv,br,a6,al⟩,ac⟩
 rw [ce] at a6;obtain⟨pa,pc,rfl⟩:=a6.src.shape;have bn:Below w.heap.size w W:=cj.trans (ao.below (by omega) (λk hk=>by omega));have bu:=bj.mod ao.2 (by omega);have ai:=a6;have ct:=(N5.1 ac).1;have cv:w.heap.size<=D:=by omega
 have ak:∀g,(Value.slice pa xs.length pc).ownBlock=some g->w.heap.size<=g/\g≠D:=λg hg=>⟨by have:=(al g hg).1;omega,λe=>(al g hg).2 (e ▸ bh)⟩
 have cr:=cx;replace af:∀_,_:=af.out;replace ag:∀_,_:=ag.out;replace ab:∀_,_:=ab.out;clear al a6 ao b8;have kB:=a1.call bn;have b4:=bl.below bn;have ca:=b1.below bn;have c6:=br.lt;have c9:=kB.lt;have dg:=bu.lt;have am:=a8.out W.drew b4;replace am:=hid am;replace ak:=hid ak;replace ai:=hid ai;replace ca:=hid ca;replace b4:=hid b4;have cc:D≠B:=λe=>by omega
 have cw:w.heap.size≠B:=λe=>by omega
 have bm:w.heap.size+1≠B:=λe=>by omega
 replace ac:=hid ac;replace af:=hid af;replace ag:=hid ag;replace ab:=hid ab;have cd:=kB;have a2:=bu;have a3:=br;replace cd:=hid cd;replace a2:=hid a2;replace a3:=hid a3;go_wp2_with fail
 refine zd [O 0,O 1,O 2,O 3,O 4,O 5,O 6,E 7,O 8,O 9,E 10] (some 10) (λw'=>Blk w' (w.heap.size) #[.pointer (some ⟨B,0,none⟩)] 54/\Blk w' B #[.pointer (some ⟨fb,0,none⟩),.int .i64 L.st.1,.int .u32 L.st.2.1,.string (bs L.st.2.2),.bool L.blk,.slice ha hn hc,.slice la ln lc] 117/\Blk w' (w.heap.size+1) #[.slice pa xs.length pc] 42/\True) (by kernel_rfl) (by kernel_rfl) ⟨bu,kB,br,trivial⟩ ?_;clear kB bu br
 refine Wl ?_
 refine zc rfl (λK hK=>?_);go_wp2_with fail
 refine am.out.mono ?_;rintro e w1⟨bt,rfl,hm,bo,ad⟩;obtain⟨bf,bd,be,rfl⟩:=bo.shape;have bg:=cd.out.drew.mod hm (λe=>(af.out B e).1 rfl);have a5:=a2.out.drew.mod hm (λe=>by have:=(af.out _ e).2;omega);have bb:=a3.out.drew.mod hm (λe=>by have:=(af.out _ e).2;omega);go_wp2;refine hK.out _ _ (λ_=>⟨a5,bg,bb,trivial⟩) ?_;clear hK K;have f1:=bg.frozen;have c1:=bg.cell;have l1:=bg.lt;replace bo:=hid bo;replace ad:=hid ad
 refine Wl ?_
 refine zc rfl (λK hK=>?_);go_wp2;refine hK.out _ _ (λh=>absurd rfl h) ?_;clear hK K f1 c1;refine zg ?_;go_wp2_with fail
 have bk:=bg.set (o:=5) (.slice bf bd be);have an:=a5.other (p:=⟨B,5,none⟩) cw (.slice bf bd be);have ap:=bb.other (p:=⟨B,5,none⟩) bm (.slice bf bd be);obtain⟨W2,bz⟩:∃W2,W2=w1.setCell ⟨B,5,none⟩ (.slice bf bd be):=⟨_,rfl⟩
 have cp:Mod (λk=>k=B∨(Value.slice ha hn hc).ownBlock=some k∨(Value.slice la ln lc).ownBlock=some k) W W2:=by
  rw [bz];exact((Mod.drew (λk=>k=B∨(Value.slice ha hn hc).ownBlock=some k∨(Value.slice la ln lc).ownBlock=some k) W).trans hm (λ_ _ e=>e) (λ_ _ e=>.inr (.inl e))).thenSet (p:=⟨B,5,none⟩) (.inl rfl) _
 have aa:∀k,k≠B->W2.heap[k]?=w1.heap[k]?:=λk hk=>by rw [bz];exact N4 _ _ _ _ hk
 have cg:Row W2 78 3 (.slice la ln lc) L.log.length (L.log.flatMap zh):=(ca.out.mod ((Mod.drew (λ_=>False) W).trans hm (Z:=λk=>(Value.slice ha hn hc).ownBlock=some k) (λ_ _ e=>e.elim) (λ_ _ e=>e)) (λg hg e=>ab.out g hg e)).kept (λg hg=>aa g (ag.out g hg).1);have b0:Row W2 78 3 (.slice pa xs.length pc) xs.length (xs.flatMap zh):=(ai.out.mod ((Mod.drew (λ_=>False) W).trans hm (Z:=λk=>(Value.slice ha hn hc).ownBlock=some k) (λ_ _ e=>e.elim) (λ_ _ e=>e)) (λg hg e=>by have:=(ak.out g hg).1;have:=(af.out g e).2;omega)).kept (λg hg=>aa g (λe=>by have:=(ak.out g hg).1;omega));have b2:=bo.out.kept (w':=W2) (λg hg=>aa g (af.out g (by rw [← ad.out];exact hg)).1)
 have aq:W2.heap[D]?=some (.deferred (some [])):=by
  rw [aa D cc,hm.block D (by simpa using ct) (λe=>by have:=(af.out D e).2;omega)];exact ac.out
 rw [← bz] at bk an ap⊢;have da:W.heap.size<=W2.heap.size:=cp.size;clear bz hm bg a5 bb bo l1;obtain⟨di,W3,aj,ah,a0,ae⟩:=zM zdI (w:=W2.drew) cg b0.src (jA xs) b6 42;obtain⟨au,ax,aw,rfl⟩:=ah.shape;have a7:=bk.drew.kept (w':=W3) (a0.block B bk.lt (λe=>(ag.out B e.symm).1 rfl));have ba:=an.drew.kept (w':=W3) (a0.block _ an.lt (λe=>by have:=(ag.out _ e.symm).2;omega));have ay:=ap.drew.kept (w':=W3) (a0.block _ ap.lt (λe=>by have:=(ag.out _ e.symm).2;omega));replace ah:=hid ah;replace cg:=hid cg;replace b0:=hid b0;replace b2:=hid b2;replace ae:=hid ae;replace aq:=hid aq;replace aa:=hid aa;replace aj:=hid aj;replace a7:=hid a7;replace ba:=hid ba;replace ay:=hid ay;refine zd [O 0,O 1,O 2,O 3,O 4,O 5,E 6,O 7,O 8,E 9] (some 9) (λw'=>Blk w' (w.heap.size) #[.pointer (some ⟨B,0,none⟩)] 54/\Blk w' B #[.pointer (some ⟨fb,0,none⟩),.int .i64 L.st.1,.int .u32 L.st.2.1,.string (bs L.st.2.2),.bool L.blk,.slice bf bd be,.slice la ln lc] 117/\Blk w' (w.heap.size+1) #[.slice pa xs.length pc] 42/\True) (by kernel_rfl) (by kernel_rfl) ⟨an,bk,ap,trivial⟩ ?_;clear bk an ap
 refine Wl ?_
 refine zc rfl (λK hK=>?_);refine zv rfl _ _ _ rfl rfl rfl aj.out ?_;unfold wpList;refine hK.out _ _ (λ_=>⟨ba.out,a7.out,ay.out,trivial⟩) ?_;clear hK K;have f3:=a7.out.frozen;have c3:=a7.out.cell;have l3:=a7.out.lt
 refine Wl ?_
 refine zc rfl (λK hK=>?_);go_wp2;refine hK.out _ _ (λh=>absurd rfl h) ?_;clear hK K f3 c3;refine zg ?_;have cl:=ay.out.other (p:=⟨B,6,none⟩) bm (.slice au ax aw);have ck:=a7.out.set (o:=6) (.slice au ax aw);have c7:=cl.cell;replace ck:=hid ck;go_wp2;rw [Exit.noGoto_ret]
 have b5:∀g,(Value.slice au ax aw).ownBlock=some g->((Value.slice la ln lc).ownBlock=some g∨g=W2.heap.size):=λg hg=>by
  have:=ae.out;rw [hg] at this
  rcases this with h|h
  ·exact .inl h.symm
  right;simpa using h
 have a4:∀k,k<W2.heap.size->k≠B->(Value.slice la ln lc).ownBlock≠some k->(W3.setCell ⟨B,6,none⟩ (.slice au ax aw)).heap[k]?=W2.heap[k]?:=λk hk h1 h2=>
  (N4 _ _ _ _ h1).trans (a0.block k hk (λe=>h2 e.symm))
 have cu:Mod (λk=>k=B∨(Value.slice ha hn hc).ownBlock=some k∨(Value.slice la ln lc).ownBlock=some k) W (W3.setCell ⟨B,6,none⟩ (.slice au ax aw)):=
  ((cp.thenDrew).trans (Mod.grown (X:=λk=>(Value.slice la ln lc).ownBlock=some k) a0 (λk h=>h)) (λ_ _ e=>e) (λ_ _ e=>.inr (.inr e))).thenSet (p:=⟨B,6,none⟩) (.inl rfl) _
 have b7:=(Mod.of_below (λk=>k=B∨(Value.slice ha hn hc).ownBlock=some k∨(Value.slice la ln lc).ownBlock=some k) bn).trans cu (λ_ _ e=>e) (λ_ _ e=>e);have bq:(W3.setCell ⟨B,6,none⟩ (.slice au ax aw)).heap[D]?=some (.deferred (some [])):=(a4 D (by omega) cc (λe=>by have:=(ag.out D e).2;omega)).trans aq.out;have az:∀k,k≠D->((W3.setCell ⟨B,6,none⟩ (.slice au ax aw)).putObj D (.deferred none)).heap[k]?=(W3.setCell ⟨B,6,none⟩ (.slice au ax aw)).heap[k]?:=λk hk=>U1 hk
 have bi:∀g,(Value.slice pa xs.length pc).ownBlock=some g->g<W.heap.size:=λg hg=>ai.out.lt hg
 refine jl (D:=D) (v:=.slice pa xs.length pc) bq (by simp [results,Tryz.results264,go_sem]) ?_;refine⟨_,ow.ext w.heap.size (λk=>(Value.slice au ax aw).ownBlock=some k) (t++ [2]),rfl,?_,⟨hk.out,fb,.slice bf bd be,.slice au ax aw,ck.out.putObj (Ne.symm cc) _,?_,?_,?_,?_,?_,?_⟩,?_,?_⟩
 ·refine zp.putNew ⟨b7.mono (λk _ e=>?_),λk hk=>Own.ext_old hk⟩ D _ cv
  rcases e with e|e|e
  ·subst e;rw [o1];exact Sub.rfl' t
  ·rw [o2.out k e];exact Sub.child t 1
  rw [o3.out k e];exact Sub.child t 2
 ·refine zF.loc fb L.fold (t++ [0]) _ _ _ _ ch.out (by have:=b7.size;simpa using this) (λk hk1 hs=>⟨Own.ext_old hk1,(az k (by omega)).trans (b7.block k hk1 (λe=>?_))⟩)
  rcases e with e|e|e
  ·subst e;rw [o1] at hs;exact zO t 0 hs
  ·rw [o2.out k e] at hs;exact(zR t (show(0:Nat)≠1 by omega)).1 hs
  rw [o3.out k e] at hs;exact(zR t (show(0:Nat)≠2 by omega)).1 hs
 ·refine b2.out.kept (λg hg=>?_)
  have h1:(Value.slice ha hn hc).ownBlock=some g:=by rw [← ad.out];exact hg
  rw [az g (by have:=(af.out g h1).2;omega)];exact a4 g (b2.out.lt hg) (af.out g h1).1 (λe=>ab.out g e h1)
 ·simp only [N1,U5]
  refine ah.out.kept (λg hg=>?_)
  have h1:g≠B/\g≠D:=by
   rcases b5 g hg with h|h
   ·have:=ag.out g h;omega
   have:=cp.size;omega
  rw [az g h1.2];exact N4 _ _ _ _ h1.1
 ·rw [Own.ext_old a1.lt,o1]
 ·intro g hg
  have h1:(Value.slice ha hn hc).ownBlock=some g:=by rw [← ad.out];exact hg
  rw [Own.ext_old (af.out g h1).2,o2.out g h1]
 ·intro g hg
  rcases b5 g hg with h|h
  ·rw [Own.ext_old (ag.out g h).2,o3.out g h]
  rw [Own.ext_new (by have:=bn.size;omega) hg]
 ·refine b0.out.kept (λg hg=>?_)
  have h1:=ak.out g hg;rw [az g h1.2];exact a4 g (by have:=bi g hg;omega) (by omega) (λe=>by have:=(ag.out g e).2;omega)
 intro g hg
 have h1:=ak.out g hg;refine⟨h1.1,Own.ext_none h1.1 (λe=>?_)⟩;have h2:=bi g hg
 rcases b5 g e with h|h
 ·have:=(ag.out g h).2;omega
 omega
end
open Go Go.RowKit Go.Shelf Go.Extern.Stop Go.Stop Go.Extern
attribute [local go_sem] Oper.semAt_some zB zo
def zjZ(L:zQ)(t:List Nat)(ow:Own)(w:World)(e:Ending)(w':World):Prop:=
 ∃B ow',e=.returned (.tuple #[.pointer (some ⟨B,0,none⟩),.int .i64 0])/\zp t ow w ow' w'/\Below w.heap.size w w'/\zL B L t ow' w'
theorem zhX {v:Int}(h:known v=true):∃d,ze5 v=((v,0,d),0):=by
 have:v=1∨v=2∨v=3:=by simp [known] at h;omega
 rcases this with rfl|rfl|rfl<;>exact⟨_,rfl⟩
def zt(v:Int):StD:=(ze5 v).1
theorem zF.own {B:Nat}{f:yB}{t:List Nat}{ow ow':Own}{W:World}(h:zF B f t ow W)(hk:∀k,Sub t (ow k)->k<W.heap.size->ow' k=ow k):zF B f t ow' W:=
 zF.loc B f t ow ow' W W h (N0 _) (λk hk1 hs=>⟨hk k hs hk1,rfl⟩)
theorem zj0(a:Addr)(v:Int)(hv:known v=true)(t:List Nat)(ow:Own)(w:World)(he:jv w a):Calls prog 87 #[.int .i64 v] w (zjZ (zjz v (zt v)) t ow w):=by
 obtain⟨d,hd⟩:=zhX hv;have ad:zt v=(v,0,d):=by unfold zt;rw [hd]
 have hn:=zjP v hv (t++ [0]) (ow.cut w) w;have af:=λW (hW:Below w.heap.size w W)=>zjX (a:=a) hd W (he.below hW he.lt)
 rw [ad];replace hn:=hid hn;replace af:=hid af;replace hd:=hid hd;replace ad:=hid ad;replace hv:=hid hv
 go_enter func87,ntmps87
 go_wp2_with fail
 refine hn.out.mono ?_;rintro e w1⟨fb,aa,rfl,ah,ac,ae⟩;replace ae:=hid ae;go_wp2_with fail
 refine(af.out _ ac).mono ?_;rintro e w2⟨rfl,ab⟩;go_wp2;have ag:Below w.heap.size w w2:=ze ac ab;have aj:=ac.size;have ai:=ab.size;refine bodyPost_ret (v:=.tuple #[.pointer (some ⟨w2.heap.size+1,0,none⟩),.int .i64 0]) (by simp [results,Tryz.results87,go_sem]) rfl ?_;refine⟨w2.heap.size+1,λk=>if k=w2.heap.size+1 then t else aa.cut w1 k,rfl,⟨Mod.of_below _ (zi (zi ag _) _),λk hk=>?_⟩,zi (zi ag _) _,hv.out,fb,.slice none 0 0,.slice none 0 0,Blk.new (by simp),?_,jc _ _ _,jc _ _ _,if_pos rfl,by simp [Value.ownBlock],by simp [Value.ownBlock]⟩
 ·show(if k=w2.heap.size+1 then t else aa.cut w1 k)=ow k
  rw [if_neg (by omega),Own.cut_old (by omega),ah.agree k hk,Own.cut_old hk]
 refine zF.loc fb _ (t++ [0]) aa _ w1 _ ae.out (by simp;omega) (λk hk hs=>⟨?_,?_⟩)
 ·show(if k=w2.heap.size+1 then t else aa.cut w1 k)=aa k
  rw [if_neg (by omega),Own.cut_old hk]
 exact(zi (zi ab _) _).block k hk
theorem jv.step {t:List Nat}(ht:t≠ []){ow ow':Own}{w w':World}{a:Addr}(h:jv w a)(hs:zp t ow w ow' w')(ho:ow 2=[]):jv w' a:=
 (hs.cell (p:=⟨2,0,none⟩) h.lt (by rw [ho];exact zj ht)).trans h
theorem zL.fold {B fb:Nat}{L:zQ}{f':yB}{t:List Nat}{ow ow':Own}{w w':World}{hv lv:Value}(hk:known L.st.1=true)(hB:Blk w B (jQ fb hv lv L) 117)
 (hH:Row w 78 3 hv L.held.length (L.held.flatMap zh)) (hG:Row w 78 3 lv L.log.length (L.log.flatMap zh)) (o1:ow B=t) (o2:∀g,hv.ownBlock=some g->ow g=t++ [1]) (o3:∀g,lv.ownBlock=some g->ow g=t++ [2])
 (hs:zp (t++ [0]) ow w ow' w') (hF:zF fb f' (t++ [0]) ow' w'):zL B {L with fold:=f'} t ow' w':=by
 refine⟨hk,fb,hv,lv,hB.kept (hs.block hB.lt (by rw [o1];exact zO t 0)),hF,?_,?_,(hs.agree B hB.lt).trans o1,λg hg=>(hs.agree g (hH.lt hg)).trans (o2 g hg),λg hg=>(hs.agree g (hG.lt hg)).trans (o3 g hg)⟩
 ·exact hH.step hs (λg hg e=>by rw [o2 g hg] at e;exact(zR t (show(0:Nat)≠1 by omega)).1 e)
 exact hG.step hs (λg hg e=>by rw [o3 g hg] at e;exact(zR t (show(0:Nat)≠2 by omega)).1 e)
def Q3(B:Nat)(t:List Nat)(ow:Own)(w:World)(R:zQ×List zx×Int)(e:Ending)(w':World):Prop:=
 ∃v ow',e=.returned (.tuple #[v,.int .i64 R.2.2])/\zp t ow w ow' w'/\zL B R.1 t ow' w'/\Row w' 78 3 v R.2.1.length (R.2.1.flatMap zh)/\(∀g,v.ownBlock=some g->w.heap.size<=g/\ow' g=[])
theorem zfX(a:Addr)(B:Nat)(L:zQ)(t:List Nat)(ht:t≠ [])(ow:Own)(e:jz)(mv:Value)(fails:Bool)(w:World)(he:jv w a)(hge:ow 2=[])(h:zL B L t ow w)
 (hm:qO w mv e.msgs) (hmt:∀a l c,mv=.slice (some a) l c->¬Sub t (ow a.block)) (hl:Zf L.fold.book+64<=268435456) (hl2:L.fold.eras.length<=536870911) (hm2:e.msgs.length<=1073741824) (hct:0<=L.fold.count/\L.fold.count<=1073741824)
 (hl3:L.held.length+L.log.length+(jX L.fold e).2.1.length<=268435456) (hl4:(jX L.fold e).1.eras.length<=536870912):
 Calls prog 214 #[.pointer (some ⟨B,0,none⟩),ZS e mv,.bool fails] w (Q3 B t ow w (j8 L e fails)):=by
 obtain⟨R,ad⟩:∃R,j8 L e fails=R:=⟨_,rfl⟩;rw [ad];unfold j8 at ad;have ac:=λW (hW:Below w.heap.size w W)=>Jj B L t ow W ((zL.loc B L t).below h hW)
 obtain⟨hk,fb,hv,lv,bi,bo,bd,bh,o1,o2,o3⟩:=h;obtain⟨W1,ai⟩:∃W1,W1=(w.alloc (.cells #[.int .i64 e.kind,.int .u32 e.epoch,.int .i64 e.ver,mv] 241)).drew:=⟨_,rfl⟩;have ap:Below w.heap.size w W1:=by rw [ai];exact pbx
 have kx:Blk W1 w.heap.size #[.int .i64 e.kind,.int .u32 e.epoch,.int .i64 e.ver,mv] 241:=by rw [ai];exact bkx
 have bn:=bi.lt;have kB:=bi.call ap;have az:t++ [0] ≠ []:=by simp
 have ae:∀k,k<w.heap.size->ow.cut w k=ow k:=λk hk=>Own.cut_old hk
 have an:=zhP fb L.fold (t++ [0]) az (ow.cut w) e mv W1 ((zF.loc fb L.fold (t++ [0])).cut bo ap) (hm.below ap) (λa l c h hs=>by
  rcases Nat.lt_or_ge a.block w.heap.size with h1|h1
  ·rw [Own.cut_old h1] at hs;exact hmt a l c h ((Sub.child t 0).trans hs)
  rw [Own.cut_new h1] at hs;exact zj az hs) (by omega) (by omega) hm2 hct
 obtain⟨⟨f',ms,bg,er⟩,hA⟩:∃A,jX L.fold e=A:=⟨_,rfl⟩;rw [hA] at an ad hl3 hl4;unfold ZS at an⊢;have ar:=λ(ow':Own)(w':World)(hs:zp (t++ [0]) (ow.cut w) W1 ow' w') (hF:zF fb f' (t++ [0]) ow' w')=>zL.fold (ow:=ow.cut w) hk kB (bd.below ap) (bh.below ap) (by rw [ae B bn,o1]) (λg hg=>by rw [ae g (bd.lt hg),o2 g hg]) (λg hg=>by rw [ae g (bh.lt hg),o3 g hg]) hs hF
 have a5:ow.cut w B=t:=by rw [ae B bn,o1]
 have au:=he.below ap he.lt;have ah:ow.cut w 2=[]:=by rw [ae _ he.lt,hge]
 simp only at ad hl3 hl4;unfold jQ at kB;replace ar:=hid ar;replace an:=hid an;replace ac:=hid ac;replace hA:=hid hA;replace ah:=hid ah;replace a5:=hid a5;replace au:=hid au;replace hl4:=hid hl4;clear bo bi bd bh o1 o2 o3 hm hmt he hge hk ae
 by_cases her:er=0
 ·subst her
  rw [if_neg (by simp)] at ad;have a7:zjy L (f',ms,bg,0) fails=(if bg then yg {L with fold:=f'} (vo f'.eras).2.1 fails else {L with fold:=f'}):=rfl;rw [a7] at ad;clear a7
  cases bg
  ·simp only [Bool.false_eq_true,if_false] at ad
   have aa:=ad;clear ad;replace aa:=hid aa
   go_enter func214,ntmps214
   go_wp2_with fail
   refine(ac.out _ (pbx)).mono ?_;rintro r w1⟨rfl,rfl⟩;go_wp2_with fail
   refine zd [O 0,O 1,O 2,O 3,O 4,O 5,E 6,O 7,O 8,O 9,O 10,O 11,O 12,O 13] none (λw'=>Blk w' w.heap.size #[.int .i64 e.kind,.int .u32 e.epoch,.int .i64 e.ver,mv] 241/\Blk w' B #[.pointer (some ⟨fb,0,none⟩),.int .i64 L.st.1,.int .u32 L.st.2.1,.string (bs L.st.2.2),.bool L.blk,hv,lv] 117/\True) (by kernel_rfl) (by kernel_rfl) (by rw [← ai];exact⟨kx,kB,trivial⟩) ?_;rw [← ai];clear ai
   refine Wb ?_
   refine zc rfl (λK hK=>?_);go_wp2_with fail
   refine an.out.mono ?_;rintro r w2⟨nv,af,rfl,ab,aw,a8,ao⟩;have ag:=ar.out af w2 ab aw;have aj:zp t ow w af w2:=(zp.wrap ap ab).mono (Sub.child t 0);have am:=au.out.step az ab ah.out;replace am:=hid am;have ax:=kx.kept (ab.free az (N0 _) kx.lt).1;have ay:=kB.kept (ab.block kB.lt (by rw [a5.out];exact zO t 0));replace ag:=hid ag;replace ao:=hid ao;go_wp2;refine hK.out _ _ (λ_=>⟨ax,ay,trivial⟩) ?_;clear hK K ab aw ax ay kx kB au ar an ac
   refine Wb ?_
   refine zg ?_;have bk:=ag.out;have bj:({L with fold:=f'} :zQ).held.length+ms.length<=1073741824:=by show L.held.length+ms.length<=_;omega
   have be:(qQ {L with fold:=f'} ms).held.length+(qQ {L with fold:=f'} ms).log.length<=536870912:=by simp only [qQ,N1];omega
   have al:=aj;have bf:=a8
   generalize({L with fold:=f'} :zQ)=L2 at*
   have a3:=zca B L2 t af nv ms w2 bk bf.src bj;replace a3:=hid a3;go_wp2_with fail
   refine a3.out.mono ?_;rintro r w4⟨rfl,bl,a6,a0⟩;have a1:=Xu B (qQ L2 ms) t ht bl w4 a0 be;replace a1:=hid a1;replace a0:=hid a0;go_wp2_with fail
   refine a1.out.mono ?_;rintro r w5⟨v5,bb,rfl,ba,a4,bc,aq⟩;replace a4:=hid a4;replace aq:=hid aq;go_wp2;refine bodyPost_ret (v:=.tuple #[v5,.int .i64 0]) (by simp [results,Tryz.results214,go_sem]) rfl ?_;rw [← aa.out];exact⟨v5,bb,rfl,(al.trans a6).trans ba,a4.out,bc,λg hg=>⟨by have:=(aq.out g hg).1;have:=al.size;have:=a6.size;omega,(aq.out g hg).2⟩⟩
  simp only [if_true] at ad
  have aa:=ad;clear ad;obtain⟨⟨ep,ve,st⟩,hn⟩:∃n,vo f'.eras=n:=⟨_,rfl⟩;rw [hn] at aa;simp only at aa;have bq:=zhE ep ve st;replace aa:=hid aa
  go_enter func214,ntmps214
  go_wp2_with fail
  refine(ac.out _ (pbx)).mono ?_;rintro r w1⟨rfl,rfl⟩;go_wp2_with fail
  refine zd [O 0,O 1,O 2,O 3,O 4,O 5,E 6,O 7,O 8,O 9,O 10,O 11,O 12,O 13] none (λw'=>Blk w' w.heap.size #[.int .i64 e.kind,.int .u32 e.epoch,.int .i64 e.ver,mv] 241/\Blk w' B #[.pointer (some ⟨fb,0,none⟩),.int .i64 L.st.1,.int .u32 L.st.2.1,.string (bs L.st.2.2),.bool L.blk,hv,lv] 117/\True) (by kernel_rfl) (by kernel_rfl) (by rw [← ai];exact⟨kx,kB,trivial⟩) ?_;rw [← ai];clear ai
  refine Wb ?_
  refine zc rfl (λK hK=>?_);go_wp2_with fail
  refine an.out.mono ?_;rintro r w2⟨nv,af,rfl,ab,aw,a8,ao⟩;have ag:=ar.out af w2 ab aw;have aj:zp t ow w af w2:=(zp.wrap ap ab).mono (Sub.child t 0);have am:=au.out.step az ab ah.out;replace am:=hid am;have ax:=kx.kept (ab.free az (N0 _) kx.lt).1;have ay:=kB.kept (ab.block kB.lt (by rw [a5.out];exact zO t 0));replace ag:=hid ag;replace ao:=hid ao;go_wp2;refine hK.out _ _ (λ_=>⟨ax,ay,trivial⟩) ?_;clear hK K ab aw ax ay kx kB au ar an ac
  refine Wb ?_
  refine zg ?_;have ak:=zaV B {L with fold:=f'} t af w2 ag.out hl4.out;simp only [hn] at ak;unfold Yh at ak;replace ak:=hid ak;replace hn:=hid hn;go_wp2_with fail
  refine ak.out.mono ?_;rintro r w6⟨rfl,a9⟩;have a2:=zb9 a B {L with fold:=f'} t af ve fails w6 (am.out.below a9 am.out.lt) ((zL.loc B _ t).below ag.out a9);have bj:(yg {L with fold:=f'} ve fails).held.length+ms.length<=1073741824:=by show L.held.length+ms.length<=_;omega
  have be:(qQ (yg {L with fold:=f'} ve fails) ms).held.length+(qQ (yg {L with fold:=f'} ve fails) ms).log.length<=536870912:=by simp only [qQ,yg,N1];omega
  generalize yg {L with fold:=f'} ve fails=L2 at*
  replace a2:=hid a2;go_wp2_with fail
  refine a2.out.mono ?_;rintro r w3⟨rfl,bp,bm,bk⟩;have al:=(aj.trans (zp.of_below t af a9)).trans bm;have bf:=(a8.below a9).step bm (λg hg e=>by rw [(ao.out g hg).2] at e;exact zj ht e);have a3:=zca B L2 t bp nv ms w3 bk bf.src bj;replace a3:=hid a3;go_wp2_with fail
  refine a3.out.mono ?_;rintro r w4⟨rfl,bl,a6,a0⟩;have a1:=Xu B (qQ L2 ms) t ht bl w4 a0 be;replace a1:=hid a1;replace a0:=hid a0;go_wp2_with fail
  refine a1.out.mono ?_;rintro r w5⟨v5,bb,rfl,ba,a4,bc,aq⟩;replace a4:=hid a4;replace aq:=hid aq;go_wp2;refine bodyPost_ret (v:=.tuple #[v5,.int .i64 0]) (by simp [results,Tryz.results214,go_sem]) rfl ?_;rw [← aa.out];exact⟨v5,bb,rfl,(al.trans a6).trans ba,a4.out,bc,λg hg=>⟨by have:=(aq.out g hg).1;have:=al.size;have:=a6.size;omega,(aq.out g hg).2⟩⟩
 rw [if_pos (by simpa using her)] at ad
 have t1:(er !=0)=true:=by simpa using her
 have aa:=ad;clear ad;replace aa:=hid aa;replace her:=hid her
 go_enter func214,ntmps214
 go_wp2_with fail
 refine(ac.out _ (pbx)).mono ?_;rintro r w1⟨rfl,rfl⟩;go_wp2_with fail
 refine zd [O 0,O 1,O 2,O 3,O 4,O 5,E 6,O 7,O 8,O 9,O 10,O 11,O 12,O 13] none (λw'=>Blk w' w.heap.size #[.int .i64 e.kind,.int .u32 e.epoch,.int .i64 e.ver,mv] 241/\Blk w' B #[.pointer (some ⟨fb,0,none⟩),.int .i64 L.st.1,.int .u32 L.st.2.1,.string (bs L.st.2.2),.bool L.blk,hv,lv] 117/\True) (by kernel_rfl) (by kernel_rfl) (by rw [← ai];exact⟨kx,kB,trivial⟩) ?_;rw [← ai];clear ai
 refine Wb ?_
 refine zc rfl (λK hK=>?_);go_wp2_with fail
 refine an.out.mono ?_;rintro r w2⟨nv,af,rfl,ab,aw,a8,ao⟩;have ag:=ar.out af w2 ab aw;have aj:zp t ow w af w2:=(zp.wrap ap ab).mono (Sub.child t 0);have am:=au.out.step az ab ah.out;replace am:=hid am;have ax:=kx.kept (ab.free az (N0 _) kx.lt).1;have ay:=kB.kept (ab.block kB.lt (by rw [a5.out];exact zO t 0));replace ag:=hid ag;replace ao:=hid ao;go_wp2;refine hK.out _ _ (λ_=>⟨ax,ay,trivial⟩) ?_;clear hK K ab aw ax ay kx kB au ar an ac
 refine Wb ?_
 refine zg ?_;go_wp2;refine bodyPost_ret (v:=.tuple #[.slice none 0 0,.int .i64 er]) (by simp [results,Tryz.results214,go_sem]) rfl ?_;rw [← aa.out];exact⟨_,af,rfl,aj,ag.out,jc _ _ _,by simp [Value.ownBlock]⟩
theorem zfY {w:World}{g o n cap:Nat}{cur:Array Value}(hn:0<n)(h:Blk w g cur 9)(hs:o+n<=cur.size)(ty:TypeId):
 (Builtin.clear_ #[107] ty #[.slice (some ⟨g,o,none⟩) n cap]).run prog w=.ok (.tuple #[]) (w.setCells g o (Builtin.zeroCells #[.string ⟨#[]⟩] n).toList):=by
 have hv:∀w:World,(zeroValue 9).run prog w=.ok (.string ⟨#[]⟩) w:=λw=>by kernel_rfl
 have aa:(Builtin.zeroCells #[.string ⟨#[]⟩] n).toList.length=n:=by simp [Builtin.zeroCells]
 have ab:=run_storeCells_cells (P:=prog) g o (Builtin.zeroCells #[.string ⟨#[]⟩] n).toList 0 w
  (λj hj=>by rw [h.cell];simp;rw [aa] at hj;omega) (λj hj=>h.frozen _) (λu hu=>by
   simp [Builtin.zeroCells] at hu
   obtain⟨i,hi,rfl⟩:=hu
   rw [Nat.mod_one];rfl)
 obtain⟨m,rfl⟩:∃m,n=m+1:=⟨n - 1,by omega⟩;simp only [Nat.add_zero] at ab;simp [Builtin.clear_,run_underlying zmF.under,hv,Value.cells,ab]
abbrev full(s:List UInt8):Bool:= !s.isEmpty
theorem zls {ss:List (List UInt8)}{k j:Nat}(hk:ss[k]?=some [])(hkj:k<j)(hj:j<=ss.length):((ss.take j).filter full).length<j:=by
 have h: [] ∈ss.take j:=by
  have:(ss.take j)[k]?=some []:=by rw [List.getElem?_take_of_lt hkj];exact hk
  exact List.mem_of_getElem? this
 have h2:=(List.length_filter_lt_length_iff_exists (p:=full) (l:=ss.take j)).2 ⟨[],h,by simp [full]⟩;rw [N7,Nat.min_eq_left hj] at h2;exact h2
theorem zcb {ss:List (List UInt8)}{j:Nat}{x:List UInt8}(hx:ss[j]?=some x):(ss.take (j+1)).filter full=(ss.take j).filter full++(if full x then [x] else []):=by
 rw [List.take_add_one,hx,List.filter_append]
 congr 1
 cases h:full x<;>simp [h]
theorem zcc(b:Nat)(ss:List (List UInt8))(hl:ss.length<=1000000)(w:World)(h:Blk w b (ss.map Zc).toArray 9):Calls prog 118 #[.slice (some ⟨b,0,none⟩) ss.length ss.length,.func (.func 119) #[] #[]] w λe w'=>
 ∃C,e=.returned (.slice (some ⟨b,0,none⟩) (ss.filter full).length ss.length)/\Blk w' b C 9/\(∀(i:Nat)(x:List UInt8),(ss.filter full)[i]?=some x->C[i]?=some (Zc x))/\Mod (λk=>k=b) w w':=by
 have au:=qH;have hxd:=zbW b ss hl w h;have ab:∀(q:Nat)(x:List UInt8),ss[q]?=some x->(ss.map Zc).toArray[q]?=some (Zc x):=λq x hq=>by rw [List.getElem?_toArray,List.getElem?_map,hq];rfl
 replace hxd:=hid hxd;replace ab:=hid ab
 go_enter func118,ntmps118
 go_wp2_with fail
 refine hxd.out.mono ?_;rintro e w1⟨he,al⟩;obtain rfl:=al.symm
 rcases he with⟨hall,rfl⟩|⟨k,hk,hall,rfl⟩
 ·have hf:ss.filter full=ss:=List.filter_eq_self.2 (λx hx=>List.all_eq_true.1 hall x hx)
  replace hf:=hid hf;replace hall:=hid hall;go_wp2;go_ret
  exact⟨_,by rw [hf.out];rfl,h,by rw [hf.out];exact ab.out,Mod.refl _ _⟩
 have aq:=(N6.1 hk).1
 have ae:(ss.take (k+1)).filter full=ss.take k:=by
  rw [zcb hk,List.filter_eq_self.2 (λx hx=>List.all_eq_true.1 hall x hx)];simp [full]
 have ax:IntKind.i64.wrap ((k:Int)+1)=(k:Int)+1:=by rw [N8];omega
 have t1:((k:Int)== -1)=false:=by simp
 replace ae:=hid ae;replace hk:=hid hk;replace hall:=hid hall;replace h:=hid h;go_wp2
 go_loopw [5,6] (λp5 p6 wr=>∃(j:Nat)(C:Array Value),p5=.int .i64 (((ss.take j).filter full).length:Nat)/\p6=.int .i64 (j:Nat)/\k<j/\j<=ss.length/\Blk wr b C 9/\C.size=ss.length/\(∀(q:Nat)(x:List UInt8),((ss.take j).filter full)[q]?=some x->C[q]?=some (Zc x))/\(∀(q:Nat)(x:List UInt8),j<=q->ss[q]?=some x->C[q]?=some (Zc x))/\Mod (λk=>k=b) w wr) (λ_ p6 _=>ss.length - (intOf p6).toNat)
 case atStart=>
  refine⟨k+1,(ss.map Zc).toArray,?_,by simp,by omega,by omega,h.out,by simp,λq x hq=>?_,λq x _ hq=>ab.out q x hq,Mod.refl _ _⟩
  ·rw [ae.out,N7,Nat.min_eq_left (by omega)]
  rw [ae.out] at hq
  exact ab.out q x (by
   have ad:=(N6.1 hq).1;rw [N7] at ad
   rwa [List.getElem?_take_of_lt (by omega)] at hq)
 case round=>
  obtain⟨j,C,rfl,rfl,am,hj,hC,aj,hF,hR,hm⟩:=hrel;have an:=zls hk.out am hj;obtain⟨i,hi⟩:∃i,((ss.take j).filter full).length=i:=⟨_,rfl⟩;rw [hi] at an⊢
  by_cases hlt:j<ss.length
  ·have t3:decide ((j:Int)<(ss.length:Int))=true:=by simpa using hlt
   obtain⟨x,hx⟩:∃x,ss[j]?=some x:=⟨_,N3 hlt⟩;have aa:=zcb hx;have ar:IntKind.i64.wrap ((j:Int)+1)=(j:Int)+1:=by rw [N8];omega
   have ay:IntKind.i64.wrap ((i:Int)+1)=(i:Int)+1:=by rw [N8];omega
   have y0:(0:Int)<=(j:Int):=by omega
   have y1:(j:Int)<(ss.length:Int):=by omega
   have y2:(0:Int)<=(i:Int):=by omega
   have y3:(i:Int)<(ss.length:Int):=by omega
   have c0:wr.cell? ⟨b,j,none⟩=some (.string (bs x)):=by rw [hC.cell,hR j x (N0 _) hx];rfl
   have ci:wr.cell? ⟨b,i,none⟩=some (C[i]'(by omega)):=by rw [hC.cell];exact Array.getElem?_eq_getElem (by omega)
   have fi:=hC.frozen i;have ah:=Xj x wr;replace ah:=hid ah;replace aa:=hid aa;replace hx:=hid hx;replace hi:=hid hi;replace hC:=hid hC;replace hF:=hid hF;replace hR:=hid hR;go_wp2_with fail
   refine ah.out.mono ?_;rintro e w2⟨rfl,ap⟩;obtain rfl:=ap.symm
   cases hxe:x.isEmpty
   ·go_wp2
    go_roundw
    case rel=>
     have ag:full x=true:=by simp [full,hxe]
     have aa:=aa.out;rw [ag,if_pos rfl] at aa;refine⟨j+1,C.setIfInBounds i (Zc x),?_,by simp,by omega,by omega,hC.out.set _,by simpa using aj,λq y hq=>?_,λq y hq hy=>?_,hm.thenSet (p:=⟨b,i,none⟩) rfl _⟩
     ·rw [aa,N1,hi.out];simp
     ·rw [aa] at hq
      by_cases hqi:i=q
      ·subst hqi
       rw [U6 (by rw [hi.out];exact N0 _),hi.out,Nat.sub_self] at hq;simp at hq
       subst hq;rw [Array.getElem?_setIfInBounds_self_of_lt (by omega)]
      rw [Array.getElem?_setIfInBounds_ne hqi]
      by_cases hq2:q<i
      ·rw [U8 (by rw [hi.out];exact hq2)] at hq
       exact hF.out q y hq
      have ad:=(N6.1 hq).1
      rw [N1,hi.out] at ad;simp at ad;omega
     rw [Array.getElem?_setIfInBounds_ne (by omega)]
     exact hR.out q y (by omega) hy
    case measure=>simp [intOf];omega
   go_wp2
   go_roundw
   case rel=>
    have ag:full x=false:=by simp [full,hxe]
    have aa:=aa.out;rw [ag,if_neg (by simp),List.append_nil] at aa;refine⟨j+1,C,by rw [aa,hi.out],by simp,by omega,by omega,hC.out,aj,λq y hq=>hF.out q y (by rw [← aa];exact hq),λq y hq hy=>hR.out q y (by omega) hy,hm⟩
   case measure=>simp [intOf];omega
  obtain rfl:j=ss.length:=by omega
  have t3:decide ((ss.length:Int)<(ss.length:Int))=false:=by simp
  rw [List.take_length] at hF hi;have y2:(0:Int)<=(i:Int):=by omega
  have y3:(i:Int)<=(ss.length:Int):=by omega
  have ak:=λty=>zfY (o:=i) (n:=ss.length - i) (cap:=ss.length - i) (by omega) hC (by omega) ty
  obtain⟨zs,ao⟩:∃zs,(Builtin.zeroCells #[.string ⟨#[]⟩] (ss.length - i)).toList=zs:=⟨_,rfl⟩;rw [ao] at ak;obtain⟨⟨C',af,aw⟩,ai⟩:=Zg b zs i wr C 9 hC
  have ac:∀q,q<i->C'[q]?=C[q]?:=λq hq=>by
   have h1:=World.cell?_setCells_out b zs i wr ⟨b,q,none⟩ (λ_ _=>.inl hq)
   rwa [hC.cell,Blk.cell (w:=wr.setCells b i zs) af] at h1
  replace af:=hid af;replace hF:=hid hF;replace hR:=hid hR;replace ac:=hid ac;go_wp2;go_ret
  refine⟨C',by rw [hi];rfl,af.out,λq x hq=>?_,hm.trans ai (λ_ _ e=>e) (λ_ _ e=>e)⟩;have ad:=(N6.1 hq).1;rw [ac.out q (by omega)];exact hF.out q x hq
