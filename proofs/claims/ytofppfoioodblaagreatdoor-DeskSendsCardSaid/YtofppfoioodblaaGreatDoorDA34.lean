/- PARTS OF THE PROOF. -/
import Derived.Test.YtofppfoioodblaaGreatDoorDA33
set_option maxRecDepth 8000
set_option maxHeartbeats 4000000
open Go.Proofs.Tryz
namespace Go.Proofs.YtofppfoioodblaaGreatDoor
section
open Go Go.RowKit Go.Shelf Go.Extern.Stop Go.Stop Go.Extern
attribute [local go_sem] Oper.semAt_some zB zo
variable {w W W':World}{D B:Nat}{K:WK}{S S':zf}{told told':List UInt8}{ow ow':Own}{a:Addr}{v:Int}{k L:Nat}{t:List Nat}
theorem zdn(hW:zK B K S t ow W)(hG:zr v k L S){i:Nat}(hi:i<S.nodes.length):
 ∃b,Calls prog 16 #[.pointer (some ⟨B,0,none⟩),.int .i64 (i:Nat)] W λe W1=>e=.returned (.pointer (some ⟨b,0,none⟩))/\zp t ow W ow W1/\zK B K (QS S i) t ow W1/\∃lb,∀W2,Below W1.heap.size W1 W2->
  (Calls prog 21 #[.pointer (some ⟨b,0,none⟩)] W2 λe W3=>e=.returned (.pointer (some ⟨lb,0,none⟩))/\W3=W2)/\
  (Calls prog 22 #[.pointer (some ⟨lb,0,none⟩)] W2 λe W3=>∃v',e=.returned v'/\Row W3 78 3 v' (zn S i).loc.log.length ((zn S i).loc.log.flatMap zh)/\Below W2.heap.size W2 W3/\(∀g,v'.ownBlock=some g->W2.heap.size<=g))/\
  (Calls prog 128 #[.pointer (some ⟨lb,0,none⟩)] W2 λe W3=>∃v',e=.returned v'/\Row W3 197 3 v' (zn S i).loc.fold.eras.length ((zn S i).loc.fold.eras.flatMap zX)/\Below W2.heap.size W2 W3/\(∀g,v'.ownBlock=some g->W2.heap.size<=g)):=by
 have ae:=hG.n0.2;obtain⟨tv,lp,hI⟩:=hW;obtain⟨b,ad,q⟩:=zjh i hi ae W hI;refine⟨b,q.mono ?_⟩;rintro e W1⟨rfl,ag,ac⟩;have af:=(hG.lent hi).node (i:=i) hi;obtain⟨b',aa,px,sb,lb,pb,av,hN⟩:=ac.node (by omega) af.1;obtain rfl:b'=b:=by rw [ad] at aa;exact(Option.some.inj aa).symm
 refine⟨rfl,ag,⟨tv,lp,ac⟩,lb,λW2 hb2=>?_⟩;have ah:=(hG.node hi).2.few;have ai:=hG.eraLen hi;have ab:=(zw.loc _ px sb lb pb av _ _).below hN hb2;exact⟨Vj W2 ab.blk,zaU lb _ (t++ [i] ++ [2]) _ W2 ab.lo (by show(zn S i).loc.log.length<=_;omega),zcQ lb _ (t++ [i] ++ [2]) _ W2 ab.lo (by show(zn S i).loc.fold.eras.length<=_;omega)⟩
theorem zkT(l:List (List UInt8)):yh l=l.map Zc:=rfl
theorem zdo {W:World}{wv:Value}{ws:List (List UInt8)}(h:Row W 9 1 wv ws.length (yh ws))(hn:1<=ws.length):∃g c,wv=.slice (some ⟨g,0,none⟩) ws.length c/\ws.length<=c/\∀(j:Nat) x,ws[j]?=some x->W.cell? ⟨g,0+j,none⟩=some (Zc x):=by
 rcases h.src.2 with⟨-,h0⟩|⟨b,off,cap,rfl,hc,hr⟩
 ·omega
 obtain⟨g,rfl,rfl⟩:∃g,b=g/\off=0:=by
  rcases h.2 with⟨e, -⟩|⟨g,cap',cur,e, -⟩
  ·cases e
  cases e;exact⟨_,rfl,rfl⟩
 exact⟨b,cap,rfl,hc,λj x hx=>hr j _ (by rw [zkT,List.getElem?_map,hx];rfl)⟩
theorem zjt(W:World)(s:List UInt8):Row (W.alloc (.cells #[.string (bs s)] 9)) 9 1 (.slice (some ⟨W.heap.size,0,none⟩) 1 1) [s].length (yh [s]):=
 ⟨rfl,.inr ⟨W.heap.size,1,_,rfl,Nat.zero_le _,Blk.new rfl,N0 _,by decide,rfl,rfl⟩⟩
theorem V9 {ws:List (List UInt8)}{c:Nat}(h:∀x∈ws,x.length<=c):(Lib.join ws [32]).length<=(c+1)*ws.length:=by
 cases ws with
 |nil=>simp [Lib.join_nil]
 |cons x r=>
  rw [Lib.join_cons];have h1:=h x (List.mem_cons_self ..)
  have h2:(Lib.joinTail [32] r).length<=(c+1)*r.length:=by
   unfold Lib.joinTail;have h3:∀y∈r,y.length<=c:=λy hy=>h y (U7 _ hy)
   clear h h1
   induction r with
   |nil=>simp
   |cons y r ih=>
    have:=ih (λz hz=>h3 z (U7 _ hz));have h4:=h3 y (List.mem_cons_self ..);simp only [List.map_cons,List.flatten_cons,N1,List.length_cons,List.length_nil,Nat.mul_add,Nat.mul_one];omega
  simp only [N1,List.length_cons,Nat.mul_add,Nat.mul_one];omega
theorem Xa {x y:Nat}(hx:x<100)(hy:y<100):(j0 x y).length<=5:=by
 have:=yK hx;have:=yK hy;unfold j0;simp only [N1,List.length_cons,List.length_nil];omega
theorem zaC {wr W1 W3:World}{wv nv lv:Value}{e:TypeId}{n m:Nat}{ws:List (List UInt8)}{xs:List Value}{base:Nat}(he:e≠9)(hP:Row wr 9 1 wv ws.length (yh ws))(hL:Row wr e m lv n xs)(hb1:Below wr.heap.size wr W1)(hgr:W1.grownBy W3 wv.ownBlock)(hown:nv.ownBlock=wv.ownBlock∨nv.ownBlock=some W1.heap.size)(hfr:∀g,wv.ownBlock=some g->base<=g)(hbase:base<=wr.heap.size):
 Row W3 e m lv n xs/\Below base wr W3/\∀g,nv.ownBlock=some g->base<=g:=by
 have aa:∀g,lv.ownBlock=some g->∀q,wv.ownBlock=some q->g≠q:=λg hg q hq=>by
  obtain⟨ab,hc⟩:=(hP.below hb1).type hq;exact(hL.below hb1).ne_blk hc he hg
 have ac:=hb1.size;refine⟨(hL.below hb1).kept (λg hg=>hgr.block g ((hL.below hb1).lt hg) (λe=>aa g hg g e.symm rfl)),?_,λg hg=>?_⟩
 ·have h1:Below base wr W1:=hb1.mono hbase
  exact h1.grown hgr (by omega) (λk hk=>hfr k hk)
 rw [hg] at hown
 rcases hown with h|h
 ·exact hfr g h.symm
 have:g=W1.heap.size:=by simpa using h
 omega
theorem zeO(h:xD w D B K S told ow W)(hG:zr v k L S)(x:vH)(hx:vw x w)(hl:x.ws.length=2)(hn:Ja x.ws 1)(hi:atP x.ws 1<S.nodes.length)(hs:∀m∈(zn S (atP x.ws 1)).loc.log,m.1.1.toNat<100/\0<=m.1.1/\m.1.2<100)(hq:(zn S (atP x.ws 1)).loc.log.length<=100)(htl:told.length<=1000000):
 Calls prog 84 #[.pointer (some ⟨D,0,none⟩),xR x] W (vZ w D B K (QS S (atP x.ws 1)) (told++xN ([108,111,103]::(zn S (atP x.ws 1)).loc.log.map λm=>j0 m.1.1.toNat m.1.2)) ow W):=by
 have bn:=h.bel;have ak:=λW' hW'=>qa x 1 (by omega) hn W' (hx.below hW')
 obtain⟨num,ws,b,C,cap⟩:=x;unfold xR at ak⊢;simp only at ak hn hl hi hs hq⊢;obtain⟨n,a0⟩:∃n,atP ws 1=n:=⟨_,rfl⟩;rw [a0] at ak hi hs hq⊢;obtain⟨W0,aw⟩:∃W0,W0=W.alloc (.cells #[.int .i64 num,.slice (some ⟨b,0,none⟩) ws.length cap] 109):=⟨_,rfl⟩;have a3:Below W.heap.size W W0:=by rw [aw];exact zi (N2 _ _) _
 have kX:Blk W0 W.heap.size #[.int .i64 num,.slice (some ⟨b,0,none⟩) ws.length cap] 109:=by rw [aw];exact Blk.new rfl
 obtain⟨tv,hD,hR,o1,o2⟩:=h.dk;have bc:Blk W0.drew D #[.pointer (some ⟨B,0,none⟩),tv] 104:=hD.call (zm a3);have bp:=hD.lt;replace o2:=hid o2;replace ak:=hid ak;replace h:=hid h;replace a0:=hid a0;replace hn:=hid hn;replace hG:=hid hG;replace hl:=hid hl;replace hx:=hid hx;replace hs:=hid hs
 go_enter func84,ntmps84
 go_wp2_with fail
 rw [← aw];clear aw;refine zd [O 0,O 1,O 2,O 3,O 4,E 5,E 6,O 7] none (λw'=>Blk w' W.heap.size #[.int .i64 num,.slice (some ⟨b,0,none⟩) ws.length cap] 109/\Blk w' D #[.pointer (some ⟨B,0,none⟩),tv] 104/\True) (by kernel_rfl) (by kernel_rfl) ⟨kX.drew,bc,trivial⟩ ?_
 refine Wb ?_
 refine zc rfl (λJ hJ=>?_);go_wp2_with fail
 refine(ak.out _ (ze bn (zm a3))).mono ?_;rintro e w2⟨rfl,ay⟩;have a5:=kX.drew.call ay;have a7:=bc.call ay;have am:Below W.heap.size W w2:=ze (zm a3) ay;have h2:=h.out.below am;have a8:zp [1] ow W (ow.cut W) w2:=zp.wrap am (zp.refl _ _ _);have bg:ow.cut W W.heap.size=[]:=Own.cut_new (N0 _);have br:ow.cut W D=[1,1]:=(Own.cut_old bp).trans o1;obtain⟨nb,hf⟩:=zdn h2.wd hG.out hi;replace hf:=hid hf;replace h2:=hid h2;go_wp2;refine hJ.out _ _ (λ_=>⟨a5,a7,trivial⟩) ?_;clear hJ J;refine zc rfl (λJ hJ=>?_);go_wp2_with fail
 refine hf.out.mono ?_;rintro e w3⟨rfl,aj,az,lb,hN⟩;have h3:=h2.out.onWorld aj az;have bu:=a5.kept (aj.block a5.lt (by rw [bg];exact zj (by simp)));have bt:=a7.kept (aj.block a7.lt (by rw [br];exact zlX.1));have ah:=a8.trans (aj.mono ⟨[0],rfl⟩);clear hf;replace hN:=hid hN;replace az:=hid az;replace aj:=hid aj;replace ah:=hid ah;replace h3:=hid h3;go_wp2;refine hJ.out _ _ (λ_=>⟨bu,bt,trivial⟩) ?_;clear hJ J
 refine Wb ?_
 refine zg ?_;have an:Below w3.heap.size w3 (w3.alloc (.cells #[.string ⟨#[108,111,103]⟩] 9)):=zi (N2 _ _) _;obtain⟨q1,q2,q3⟩:=hN.out _ an;have a1:=zjt w3 [108,111,103];replace q1:=hid q1;replace q2:=hid q2;replace q3:=hid q3;replace a1:=hid a1;go_wp2_with fail
 refine q1.out.mono ?_;rintro e w4⟨rfl,bh⟩;obtain rfl:=bh.symm;go_wp2_with fail
 refine q2.out.mono ?_;rintro e w5⟨lv,rfl,ac,be,ba⟩;obtain⟨la,lc,rfl⟩:=ac.wideV.shape;have ad:Below w3.heap.size w3 w5:=ze an be;have ax:=a1.out.below be;clear q1 q2 q3;obtain⟨lg,ap⟩:∃l,(zn S n).loc.log=l:=⟨_,rfl⟩;rw [ap] at ac hs hq⊢;replace ap:=hid ap;have af:=ad;replace ac:=hid ac;replace ax:=hid ax;replace ad:=hid ad;replace af:=hid af;replace ba:=hid ba;go_wp2
 go_loopw [5,24] (λp5 p24 wr=>∃j:Nat,p24=.int .i64 (j:Nat)/\j<=lg.length/\Row wr 9 1 p5 ([108,111,103]::(lg.take j).map λm=>j0 m.1.1.toNat m.1.2).length (yh ([108,111,103]::(lg.take j).map λm=>j0 m.1.1.toNat m.1.2))/\Row wr 78 3 (.slice la lg.length lc) lg.length (lg.flatMap zh)/\Below w3.heap.size w3 wr/\(∀g,p5.ownBlock=some g->w3.heap.size<=g)) (λ_ p24 _=>lg.length - (intOf p24).toNat)
 case atStart=>exact⟨0,rfl,Nat.zero_le _,ax.out,ac.out,ad.out,λg hg=>by simp [Value.ownBlock] at hg;omega⟩
 case round=>
  obtain⟨j,rfl,hj,hP,hL,ao,a6⟩:=hrel;clear ac ax ad
  by_cases hlt:j<lg.length
  ·have t1:decide ((j:Int)<(lg.length:Int))=true:=by simpa using hlt
   obtain⟨m,hm⟩:∃m,lg[j]?=some m:=⟨_,N3 hlt⟩;obtain⟨bo,bv,a9⟩:=hs.out m (List.mem_of_getElem? hm);have y0:(0:Int)<=(j:Int):=by omega
   have y1:(j:Int)<(lg.length:Int):=by omega
   have b2:IntKind.i64.wrap ((j:Int)+1)=(j:Int)+1:=by rw [N8];omega
   obtain⟨b3,b0,rfl⟩:∃lb lo,la=some ⟨lb,lo,none⟩:=by
    rcases hL.src.2 with⟨e,h0⟩|⟨b,off,cap,e, -, -⟩
    ·omega
    cases e;exact⟨b,off,rfl⟩
   obtain⟨c0,c1,c2⟩:=Z3 hL.src hm;have a4:lg.take (j+1)=lg.take j++ [m]:=by rw [List.take_add_one,hm];rfl
   obtain⟨⟨mi,mc⟩,md⟩:=m;simp only at bo bv a9 c0 c1 c2;obtain⟨p,rfl⟩:∃p:Nat,mi=p:=⟨mi.toNat,by omega⟩;have hp:=λW=>zfz p mc (by omega) a9 W
   have b1:IntKind.i64.wrap (mc:Int)=(mc:Int):=by rw [N8];omega
   obtain⟨pr,ar⟩:∃x,j0 p mc=x:=⟨_,rfl⟩;rw [ar] at hp;have bz:([108,111,103]::(lg.take j).map λm=>j0 m.1.1.toNat m.1.2:List (List UInt8)).length<=1000:=by simp;omega
   have au:([108,111,103]::(lg.take (j+1)).map λm=>j0 m.1.1.toNat m.1.2)=([108,111,103]::(lg.take j).map λm=>j0 m.1.1.toNat m.1.2)++ [pr]:=by rw [a4,List.map_append,← ar];rfl
   obtain⟨wj,ag⟩:∃x,([108,111,103]::(lg.take j).map λm=>j0 m.1.1.toNat m.1.2:List (List UInt8))=x:=⟨_,rfl⟩;rw [ag] at hP bz au;have bl:=ao.size;replace ag:=hid ag;replace au:=hid au;replace hp:=hid hp;replace ar:=hid ar;replace a4:=hid a4;replace hm:=hid hm;replace a6:=hid a6;replace hL:=hid hL;go_wp2_with fail
   refine(hp.out _).mono ?_;rintro e w6⟨rfl,bk⟩;obtain rfl:=bk.symm
   go_wp2_with (at_builtin
                have bd:Below wr.heap.size wr ((wr.alloc (.cells #[.int .i64 p,.int .u32 mc,.string (bs md)] 78)).alloc (.cells #[.string (bs pr)] 9)):=zi (zi (N2 _ _) _) _;obtain⟨bq,W3,al,ab,bj,a2⟩:=zM zmF (hP.below bd) (jD (n:=1) (size:=1) (cap:=1) (Blk.new (w:=wr.alloc (.cells #[.int .i64 p,.int .u32 mc,.string (bs md)] 78)) (b:=wr.heap.size+1) (cs:=#[.string (bs pr)]) (t:=9) (by simp)) rfl (N0 1)) (zbX [pr]) (by omega) 107;obtain⟨z1,z2,z3⟩:=zaC (n:=lg.length) (by decide) hP hL.out bd bj a2 a6.out bl
                have ae:Row W3 9 1 bq (wj++ [pr]).length (yh (wj++ [pr])):=by
                 rw [N1];have:yh (wj++ [pr])=yh wj++yh [pr]:=by simp [yh]
                 rw [this];exact ab
                obtain⟨sa,sm,sc,rfl⟩:=ab.shape;replace ab:=hid ab;replace ae:=hid ae;replace z3:=hid z3;replace z1:=hid z1;refine zv rfl _ _ _ rfl rfl rfl al ?_
                clear al)
   go_roundw
   case rel=>exact⟨j+1,by simp,by omega,by rw [au.out];exact ae.out,z1.out,ao.trans z2,z3.out⟩
   case measure=>simp [intOf];omega
  obtain rfl:j=lg.length:=by omega
  have t1:decide ((lg.length:Int)<(lg.length:Int))=false:=by simp
  rw [List.take_length] at hP;obtain⟨g,c,rfl,bm,aa⟩:=zdo hP (by simp);have h6:=h3.out.below ao
  have bi:(Lib.join ([108,111,103]::lg.map λm=>j0 m.1.1.toNat m.1.2) [32]).length<=1000000:=by
   refine Nat.le_trans (V9 (c:=5) (λy hy=>?_)) (by simp;omega)
   rcases List.mem_cons.1 hy with e|e
   ·rw [e];decide
   obtain⟨m,hm,rfl⟩:=List.mem_map.1 e
   have:=hs.out m hm;exact Xa this.1 this.2.2
  have aq:=ZT ([108,111,103]::lg.map λm=>j0 m.1.1.toNat m.1.2) ⟨by simp,by simp;omega,bm⟩ bi (by omega:told.length<=10000000) wr aa h6.dk;rw [show([108,111,103]::lg.map λm=>j0 m.1.1.toNat m.1.2:List (List UInt8)).length=lg.length+1 by simp] at aq;have ai:zp [1] ow W _ wr:=ah.out.trans (zp.wrap ao (zp.refl [1] _ _));replace aq:=hid aq;replace aa:=hid aa;replace h6:=hid h6;replace ai:=hid ai;go_wp2_with fail
  refine aq.out.mono ?_;rintro e w7⟨rfl,bw,bb,bf⟩;go_wp2;go_end0
  exact⟨rfl,bw,ai.out.trans (bb.mono ⟨[1],rfl⟩),by rw [ap.out];exact h6.out.onDesk bb bf⟩
theorem zdp(h:xD w D B K S told ow W)(hG:zr v k L S)(x:vH)(hx:vw x w)(hl:x.ws.length=2)(hn:Ja x.ws 1)(hi:atP x.ws 1<S.nodes.length)(hs:∀m∈(zn S (atP x.ws 1)).loc.fold.eras,m.1<100/\0<=m.2.1/\m.2.1.toNat<100)(hq:(zn S (atP x.ws 1)).loc.fold.eras.length<=100)(htl:told.length<=1000000):
 Calls prog 85 #[.pointer (some ⟨D,0,none⟩),xR x] W (vZ w D B K (QS S (atP x.ws 1)) (told++xN ([101,114,97,115]::(zn S (atP x.ws 1)).loc.fold.eras.map λm=>j0 m.1 m.2.1.toNat)) ow W):=by
 have bo:=h.bel;have ak:=λW' hW'=>qa x 1 (by omega) hn W' (hx.below hW')
 obtain⟨num,ws,b,C,cap⟩:=x;unfold xR at ak⊢;simp only at ak hn hl hi hs hq⊢;obtain⟨n,a0⟩:∃n,atP ws 1=n:=⟨_,rfl⟩;rw [a0] at ak hi hs hq⊢;obtain⟨W0,aw⟩:∃W0,W0=W.alloc (.cells #[.int .i64 num,.slice (some ⟨b,0,none⟩) ws.length cap] 109):=⟨_,rfl⟩;have a3:Below W.heap.size W W0:=by rw [aw];exact zi (N2 _ _) _
 have kX:Blk W0 W.heap.size #[.int .i64 num,.slice (some ⟨b,0,none⟩) ws.length cap] 109:=by rw [aw];exact Blk.new rfl
 obtain⟨tv,hD,hR,o1,o2⟩:=h.dk;have bc:Blk W0.drew D #[.pointer (some ⟨B,0,none⟩),tv] 104:=hD.call (zm a3);have bp:=hD.lt;replace o2:=hid o2;replace ak:=hid ak;replace h:=hid h;replace a0:=hid a0;replace hn:=hid hn;replace hG:=hid hG;replace hl:=hid hl;replace hx:=hid hx;replace hs:=hid hs
 go_enter func85,ntmps85
 go_wp2_with fail
 rw [← aw];clear aw;refine zd [O 0,O 1,O 2,O 3,O 4,E 5,E 6,O 7] none (λw'=>Blk w' W.heap.size #[.int .i64 num,.slice (some ⟨b,0,none⟩) ws.length cap] 109/\Blk w' D #[.pointer (some ⟨B,0,none⟩),tv] 104/\True) (by kernel_rfl) (by kernel_rfl) ⟨kX.drew,bc,trivial⟩ ?_
 refine Wb ?_
 refine zc rfl (λJ hJ=>?_);go_wp2_with fail
 refine(ak.out _ (ze bo (zm a3))).mono ?_;rintro e w2⟨rfl,ay⟩;have a5:=kX.drew.call ay;have a7:=bc.call ay;have am:Below W.heap.size W w2:=ze (zm a3) ay;have h2:=h.out.below am;have a8:zp [1] ow W (ow.cut W) w2:=zp.wrap am (zp.refl _ _ _);have bg:ow.cut W W.heap.size=[]:=Own.cut_new (N0 _);have br:ow.cut W D=[1,1]:=(Own.cut_old bp).trans o1;obtain⟨nb,hf⟩:=zdn h2.wd hG.out hi;replace hf:=hid hf;replace h2:=hid h2;go_wp2;refine hJ.out _ _ (λ_=>⟨a5,a7,trivial⟩) ?_;clear hJ J;refine zc rfl (λJ hJ=>?_);go_wp2_with fail
 refine hf.out.mono ?_;rintro e w3⟨rfl,aj,az,lb,hN⟩;have h3:=h2.out.onWorld aj az;have bu:=a5.kept (aj.block a5.lt (by rw [bg];exact zj (by simp)));have bt:=a7.kept (aj.block a7.lt (by rw [br];exact zlX.1));have ah:=a8.trans (aj.mono ⟨[0],rfl⟩);clear hf;replace hN:=hid hN;replace az:=hid az;replace aj:=hid aj;replace ah:=hid ah;replace h3:=hid h3;go_wp2;refine hJ.out _ _ (λ_=>⟨bu,bt,trivial⟩) ?_;clear hJ J
 refine Wb ?_
 refine zg ?_;have an:Below w3.heap.size w3 (w3.alloc (.cells #[.string ⟨#[101,114,97,115]⟩] 9)):=zi (N2 _ _) _;obtain⟨q1,q2,q3⟩:=hN.out _ an;have a1:=zjt w3 [101,114,97,115];replace q1:=hid q1;replace q2:=hid q2;replace q3:=hid q3;replace a1:=hid a1;go_wp2_with fail
 refine q1.out.mono ?_;rintro e w4⟨rfl,bi⟩;obtain rfl:=bi.symm;go_wp2_with fail
 refine q3.out.mono ?_;rintro e w5⟨lv,rfl,ac,be,a9⟩;obtain⟨la,lc,rfl⟩:=ac.wideV.shape;have ad:Below w3.heap.size w3 w5:=ze an be;have ax:=a1.out.below be;clear q1 q2 q3;obtain⟨lg,ap⟩:∃l,(zn S n).loc.fold.eras=l:=⟨_,rfl⟩;rw [ap] at ac hs hq⊢;replace ap:=hid ap;have af:=ad;replace ac:=hid ac;replace ax:=hid ax;replace ad:=hid ad;replace af:=hid af;replace a9:=hid a9;go_wp2
 go_loopw [5,24] (λp5 p24 wr=>∃j:Nat,p24=.int .i64 (j:Nat)/\j<=lg.length/\Row wr 9 1 p5 ([101,114,97,115]::(lg.take j).map λm=>j0 m.1 m.2.1.toNat).length (yh ([101,114,97,115]::(lg.take j).map λm=>j0 m.1 m.2.1.toNat))/\Row wr 197 3 (.slice la lg.length lc) lg.length (lg.flatMap zX)/\Below w3.heap.size w3 wr/\(∀g,p5.ownBlock=some g->w3.heap.size<=g)) (λ_ p24 _=>lg.length - (intOf p24).toNat)
 case atStart=>exact⟨0,rfl,Nat.zero_le _,ax.out,ac.out,ad.out,λg hg=>by simp [Value.ownBlock] at hg;omega⟩
 case round=>
  obtain⟨j,rfl,hj,hP,hL,ao,a6⟩:=hrel;clear ac ax ad
  by_cases hlt:j<lg.length
  ·have t1:decide ((j:Int)<(lg.length:Int))=true:=by simpa using hlt
   obtain⟨m,hm⟩:∃m,lg[j]?=some m:=⟨_,N3 hlt⟩;obtain⟨bb,bv,bh⟩:=hs.out m (List.mem_of_getElem? hm);have y0:(0:Int)<=(j:Int):=by omega
   have y1:(j:Int)<(lg.length:Int):=by omega
   have b2:IntKind.i64.wrap ((j:Int)+1)=(j:Int)+1:=by rw [N8];omega
   obtain⟨b3,b0,rfl⟩:∃lb lo,la=some ⟨lb,lo,none⟩:=by
    rcases hL.src.2 with⟨e,h0⟩|⟨b,off,cap,e, -, -⟩
    ·omega
    cases e;exact⟨b,off,rfl⟩
   obtain⟨c0,c1,c2⟩:=ziF hL.src hm;have a4:lg.take (j+1)=lg.take j++ [m]:=by rw [List.take_add_one,hm];rfl
   obtain⟨mc,mi,md⟩:=m;simp only at bb bv bh c0 c1 c2;obtain⟨p,rfl⟩:∃p:Nat,mi=p:=⟨mi.toNat,by omega⟩;have hp:=λW=>zfz mc p bb (by omega) W
   have b1:IntKind.i64.wrap (mc:Int)=(mc:Int):=by rw [N8];omega
   obtain⟨pr,ar⟩:∃x,j0 mc p=x:=⟨_,rfl⟩;rw [ar] at hp;have bz:([101,114,97,115]::(lg.take j).map λm=>j0 m.1 m.2.1.toNat:List (List UInt8)).length<=1000:=by simp;omega
   have au:([101,114,97,115]::(lg.take (j+1)).map λm=>j0 m.1 m.2.1.toNat)=([101,114,97,115]::(lg.take j).map λm=>j0 m.1 m.2.1.toNat)++ [pr]:=by rw [a4,List.map_append,← ar];rfl
   obtain⟨wj,ag⟩:∃x,([101,114,97,115]::(lg.take j).map λm=>j0 m.1 m.2.1.toNat:List (List UInt8))=x:=⟨_,rfl⟩;rw [ag] at hP bz au;have bm:=ao.size;replace ag:=hid ag;replace au:=hid au;replace hp:=hid hp;replace ar:=hid ar;replace a4:=hid a4;replace hm:=hid hm;replace a6:=hid a6;replace hL:=hid hL;go_wp2_with fail
   refine(hp.out _).mono ?_;rintro e w6⟨rfl,bl⟩;obtain rfl:=bl.symm
   go_wp2_with (at_builtin
                have bd:Below wr.heap.size wr ((wr.alloc (.cells #[.int .u32 mc,.int .i64 p,.int .i64 md] 197)).alloc (.cells #[.string (bs pr)] 9)):=zi (zi (N2 _ _) _) _;obtain⟨bq,W3,al,ab,bk,a2⟩:=zM zmF (hP.below bd) (jD (n:=1) (size:=1) (cap:=1) (Blk.new (w:=wr.alloc (.cells #[.int .u32 mc,.int .i64 p,.int .i64 md] 197)) (b:=wr.heap.size+1) (cs:=#[.string (bs pr)]) (t:=9) (by simp)) rfl (N0 1)) (zbX [pr]) (by omega) 107;obtain⟨z1,z2,z3⟩:=zaC (n:=lg.length) (by decide) hP hL.out bd bk a2 a6.out bm
                have ae:Row W3 9 1 bq (wj++ [pr]).length (yh (wj++ [pr])):=by
                 rw [N1];have:yh (wj++ [pr])=yh wj++yh [pr]:=by simp [yh]
                 rw [this];exact ab
                obtain⟨sa,sm,sc,rfl⟩:=ab.shape;replace ab:=hid ab;replace ae:=hid ae;replace z3:=hid z3;replace z1:=hid z1;refine zv rfl _ _ _ rfl rfl rfl al ?_
                clear al)
   go_roundw
   case rel=>exact⟨j+1,by simp,by omega,by rw [au.out];exact ae.out,z1.out,ao.trans z2,z3.out⟩
   case measure=>simp [intOf];omega
  obtain rfl:j=lg.length:=by omega
  have t1:decide ((lg.length:Int)<(lg.length:Int))=false:=by simp
  rw [List.take_length] at hP;obtain⟨g,c,rfl,bn,aa⟩:=zdo hP (by simp);have h6:=h3.out.below ao
  have bj:(Lib.join ([101,114,97,115]::lg.map λm=>j0 m.1 m.2.1.toNat) [32]).length<=1000000:=by
   refine Nat.le_trans (V9 (c:=5) (λy hy=>?_)) (by simp;omega)
   rcases List.mem_cons.1 hy with e|e
   ·rw [e];decide
   obtain⟨m,hm,rfl⟩:=List.mem_map.1 e
   have:=hs.out m hm;exact Xa this.1 this.2.2
  have aq:=ZT ([101,114,97,115]::lg.map λm=>j0 m.1 m.2.1.toNat) ⟨by simp,by simp;omega,bn⟩ bj (by omega:told.length<=10000000) wr aa h6.dk;rw [show([101,114,97,115]::lg.map λm=>j0 m.1 m.2.1.toNat:List (List UInt8)).length=lg.length+1 by simp] at aq;have ai:zp [1] ow W _ wr:=ah.out.trans (zp.wrap ao (zp.refl [1] _ _));replace aq:=hid aq;replace aa:=hid aa;replace h6:=hid h6;replace ai:=hid ai;go_wp2_with fail
  refine aq.out.mono ?_;rintro e w7⟨rfl,bw,ba,bf⟩;go_wp2;go_end0
  exact⟨rfl,bw,ai.out.trans (ba.mono ⟨[1],rfl⟩),by rw [ap.out];exact h6.out.onDesk ba bf⟩
end
section
open Go Go.RowKit Go.Shelf Go.Extern.Stop Go.Stop Go.Extern
attribute [local go_sem] Oper.semAt_some zB zo
theorem zeP(a b:List UInt8):(bs a==bs b)=decide (a=b):=by
 have h:(bs a==bs b)=((bs a).data==(bs b).data):=rfl;rw [h]
 show(a.toArray==b.toArray)=_
 by_cases e:a=b
 ·simp [e]
 simp [e]
theorem zlZ(n:Nat)(b:Bool)(s:List UInt8)(w:World):(Instr.checkKey b (n+1) 9 (Zc s)).run prog w=.ok () w:=by
 simp [Instr.checkKey,Zc,go_sem]
theorem qG:qe prog 9 Zc where
 eq:=λk k' w=>by
  have h:(Op.equal 9 (Zc k) (Zc k')).run prog w=(Op.equalIn 10000 9 (.string (bs k)) (.string (bs k'))).run prog w:=rfl;rw [h];simp [go_sem,zmb]
 chk:=λb k w=>zlZ 9999 b k w
 bits:=λk=>by simp [Zc,Instr.sameBits,zeP]
 now:=⟨_,Tryz.underlying9,λk k'=>by
  by_cases h:k=k'
  ·right;subst h;simp [Zc,Instr.sameNow,zeP]
  right;simp [Zc,Instr.sameNow,zeP,h]⟩
def v7(D f:Nat):Value:=.func (.func f) #[.pointer (some ⟨D,0,none⟩)] #[]
def zju(D:Nat):List (List UInt8×Value):=[([115,101,110,100],v7 D 80),([112,114,111,112,111,115,101],v7 D 81),([99,114,97,115,104],v7 D 81),([114,101,115,116,97,114,116],v7 D 81),([99,117,116],v7 D 81),([119,97,110,116],v7 D 81),([116,97,107,101],v7 D 82),([100,114,111,112],v7 D 82),([99,111,112,121],v7 D 82),([102,97,105,114],v7 D 83),([108,111,103],v7 D 84),([101,114,97,115],v7 D 85),([102,108,121,105,110,103],v7 D 86)]
theorem zkU(D:Nat)(w:World):Calls prog 40 #[.pointer (some ⟨D,0,none⟩)] w λe w'=>e=.returned (.map (some w.heap.size))/\Below w.heap.size w w'/\zZ w' w.heap.size Zc (zju D):=by
 have aw:= @run_makeMap prog;have m0:=zZ.made w Zc;obtain⟨o1,ap,m1⟩:=m0.update qG Tryz.underlying105 [115,101,110,100] (v7 D 80);rw [zC] at ap m1;obtain⟨o2,ai,m2⟩:=m1.update qG Tryz.underlying105 [112,114,111,112,111,115,101] (v7 D 81);rw [zC] at ai m2;obtain⟨o3,an,m3⟩:=m2.update qG Tryz.underlying105 [99,114,97,115,104] (v7 D 81);rw [zC] at an m3;obtain⟨o4,am,m4⟩:=m3.update qG Tryz.underlying105 [114,101,115,116,97,114,116] (v7 D 81);rw [zC] at am m4;obtain⟨o5,ak,m5⟩:=m4.update qG Tryz.underlying105 [99,117,116] (v7 D 81);rw [zC] at ak m5;obtain⟨o6,aq,m6⟩:=m5.update qG Tryz.underlying105 [119,97,110,116] (v7 D 81);rw [zC] at aq m6;obtain⟨o7,ao,m7⟩:=m6.update qG Tryz.underlying105 [116,97,107,101] (v7 D 82);rw [zC] at ao m7;obtain⟨o8,ar,m8⟩:=m7.update qG Tryz.underlying105 [100,114,111,112] (v7 D 82);rw [zC] at ar m8;obtain⟨o9,aj,m9⟩:=m8.update qG Tryz.underlying105 [99,111,112,121] (v7 D 82);rw [zC] at aj m9;obtain⟨ay,ad,ag⟩:=m9.update qG Tryz.underlying105 [102,97,105,114] (v7 D 83);rw [zC] at ad ag;obtain⟨au,aa,ae⟩:=ag.update qG Tryz.underlying105 [108,111,103] (v7 D 84);rw [zC] at aa ae;obtain⟨ax,ac,ah⟩:=ae.update qG Tryz.underlying105 [101,114,97,115] (v7 D 85);rw [zC] at ac ah;obtain⟨al,ab,af⟩:=ah.update qG Tryz.underlying105 [102,108,121,105,110,103] (v7 D 86);rw [zC] at ab af;clear m0 m1 m2 m3 m4 m5 m6 m7 m8 m9 ag ae ah;unfold Zc v7 bs at ap ai an am ak aq ao ar aj ad aa ac ab;have hb:Below w.heap.size w (w.alloc al):=zi (N2 _ _) _;have m:zZ (w.alloc al) w.heap.size Zc (zju D):=af;clear af;replace m:=hid m
 go_enter func40,ntmps40
 go_wp2;go_ret
 exact⟨rfl,hb,m.out⟩
variable {w W W':World}{D B:Nat}{K:WK}{S S':zf}{told told':List UInt8}{ow ow':Own}{a:Addr}{v:Int}{k L:Nat}
theorem zdq(h:xD w D B K S told ow W)(he:jv w a)(hG:zr v k L S)(hk:k<=100000000)(hL:L<=3000000000)(hv:known v=true)(x:vH)(hx:vw x w)(h0:x.ws[0]?=some [119,97,110,116])(hl:x.ws.length=3)(hn:Ja x.ws 1)(hm:Ja x.ws 2)(hi:atP x.ws 1<S.nodes.length)
 (hr:doW (zt v) S ⟨10,atP x.ws 1,atP x.ws 2,0,0,[]⟩=(S',0)) (htl:told.length<=1000000):
 Calls prog 81 #[.pointer (some ⟨D,0,none⟩),xR x] W (vZ w D B K S' (told++okT) ow W):=by
 have ay:=h.bel;have ar:=λW' hW'=>qa x 1 (by omega) hn W' (hx.below hW')
 have ab:=λW' hW'=>qa x 2 (by omega) hm W' (hx.below hW')
 obtain⟨num,ws,b,C,cap⟩:=x;have bq:=hx.below ay;obtain⟨kw,bi, -,ba, -,bb,hC⟩:=bq;unfold xR at ar ab⊢;simp only at ar ab kw bi ba bb hC hi hn hm hl hr h0⊢;obtain⟨n,a7⟩:∃n,atP ws 1=n:=⟨_,rfl⟩;obtain⟨m,a6⟩:∃n,atP ws 2=n:=⟨_,rfl⟩;rw [a7] at ar hr hi;rw [a6] at ab hr;have aw:=λW=>QY [119,97,110,116] W
 rw [show zaK [119,97,110,116]=some (2,0,10)by decide] at aw;unfold vu at aw;simp only at aw;obtain⟨W0,a1⟩:∃W0,W0=W.alloc (.cells #[.int .i64 num,.slice (some ⟨b,0,none⟩) ws.length cap] 109):=⟨_,rfl⟩;have be:Below W.heap.size W W0:=by rw [a1];exact zi (N2 _ _) _
 have kX:Blk W0 W.heap.size #[.int .i64 num,.slice (some ⟨b,0,none⟩) ws.length cap] 109:=by rw [a1];exact Blk.new rfl
 have y0:(0:Int)<(ws.length:Int):=by omega
 have c0:W0.cell? ⟨b,0,none⟩=some (.string (bs [119,97,110,116])):=by rw [(kw.call be).cell];exact hC 0 _ h0
 have cX:=kX.cell;replace aw:=hid aw;replace ar:=hid ar;replace ab:=hid ab;replace hC:=hid hC;replace ba:=hid ba;replace h:=hid h;replace hr:=hid hr;replace a7:=hid a7;replace a6:=hid a6;replace hn:=hid hn;replace hm:=hid hm;replace hG:=hid hG;replace hl:=hid hl;replace h0:=hid h0;replace hx:=hid hx;have bg:(W.alloc (.cells #[.int .i64 num,.slice (some ⟨b,0,none⟩) ws.length cap] 109)).cell? ⟨b,0,none⟩=some (.string (bs [119,97,110,116])):=by rw [← a1];exact c0
 go_enter func81,ntmps81
 go_wp2_with fail
 rw [← a1];clear a1 bg;refine(aw.out _).mono ?_;rintro e w2⟨rfl,bc⟩;obtain⟨w3,ax⟩:∃x,x=w2.alloc (.cells #[.int .i64 2,.int .i64 0,.int .i64 10] 209):=⟨_,rfl⟩;have az:Below W.heap.size W w2:=ze be bc;have aa:Below W.heap.size W w3:=by rw [ax];exact zi az _
 have ag:Blk w3 W.heap.size #[.int .i64 num,.slice (some ⟨b,0,none⟩) ws.length cap] 109:=by rw [ax];exact(kX.call bc).alloc _
 have af:Blk w3 w2.heap.size #[.int .i64 2,.int .i64 0,.int .i64 10] 209:=by rw [ax];exact Blk.new rfl
 have bv:W.heap.size<=w2.heap.size:=az.size;go_wp2_with fail
 rw [← ax];clear ax;refine vB [O 0,O 1,O 2] none (λw'=>Blk w' w2.heap.size #[.int .i64 2,.int .i64 0,.int .i64 10] 209/\Blk w' W.heap.size #[.int .i64 num,.slice (some ⟨b,0,none⟩) ws.length cap] 109/\True) #[true,true,true,false,false,false,false] (m:=4) (by kernel_rfl) (by kernel_rfl) ⟨af.drew,ag.drew,trivial⟩ ?_
 refine Ws ?_
 refine jS (λ_=>?_);refine X7 3 [5] (by kernel_rfl) ?_ (Vm ?_ X8)
 ·refine YN rfl (λJ hJ=>?_)
  go_wp2_with fail
  refine(ar.out _ (ze ay (zm aa))).mono ?_;rintro e w4⟨rfl,an⟩;have ap:=af.drew.call an;have ao:=ag.drew.call an;have ai:Below W.heap.size W w4:=ze (zm aa) an;go_wp2;refine hJ.out _ _ ⟨ap,ao,trivial⟩ ?_;clear hJ J;refine xC [O 4,E 5,E 6] (by kernel_rfl) (λ_=>⟨ap,ao,trivial⟩) ?_
  refine Ws ?_
  refine jJ rfl (by simp) (λJ hJ=>?_);go_wp2;refine hJ.out _ _ ⟨ap.alloc _,ao.alloc _,trivial⟩ ?_;clear hJ J;refine jJ rfl (by simp) (λJ hJ=>?_);go_wp2;refine hJ.out _ _ ⟨ap.alloc _,ao.alloc _,trivial⟩ ?_;clear hJ J;refine jS ?_;obtain⟨w5,ac⟩:∃x,x=w4.alloc (.cells #[.int .i64 10,.int .i64 (n:Nat),.int .i64 0,.int .i64 0,.int .u32 0,.string ⟨#[]⟩] 37):=⟨_,rfl⟩;obtain⟨ob,am⟩:∃x,x=w4.heap.size:=⟨_,rfl⟩;have ad:Below W.heap.size W w5:=by rw [ac];exact zi ai _
  have aq:W.heap.size<=ob:=by rw [am];exact ai.size
  have al:Blk w5 ob #[.int .i64 10,.int .i64 (n:Nat),.int .i64 0,.int .i64 0,.int .u32 0,.string ⟨#[]⟩] 37:=by rw [ac,am];exact Blk.new rfl
  have a5:Blk w5 W.heap.size #[.int .i64 num,.slice (some ⟨b,0,none⟩) ws.length cap] 109:=by rw [ac];exact ao.alloc _
  have a4:Blk w5 w2.heap.size #[.int .i64 2,.int .i64 0,.int .i64 10] 209:=by rw [ac];exact ap.alloc _
  rw [← ac,← am];clear ac am;have bm:=a5.cell;have bn:=a4.cell;have bk:=al.cell;have bj:=al.frozen;have bo:=al.lt;go_wp2_with fail
  refine(ab.out _ (ze ay ad)).mono ?_;rintro e w6⟨rfl,a0⟩;have ak:=al.call a0;have bp:=ak.cell;have bh:=ak.frozen;have bl:=ak.lt;have a9:=ak.set (o:=2) (.int .i64 (m:Nat));have bf:=a9.cell;obtain⟨w7,ah⟩:∃x,x=w6.setCell ⟨ob,2,none⟩ (.int .i64 (m:Nat)):=⟨_,rfl⟩;have ae:Below W.heap.size W w7:=by rw [ah];exact zu (ze ad a0) aq _
  have h7:=h.out.below ae;have au:zp [1] ow W (ow.cut W) w7:=zp.wrap ae (zp.refl _ _ _);have aj:=Vt h7 he hG.out hk hL hv ⟨10,n,m,0,0,[]⟩ ⟨by simp,by simp,by simp⟩ (.inr (.inr (.inr rfl))) (λ_=>⟨by simp,by simp only;omega⟩) hr.out htl;rw [ah] at aj;replace aj:=hid aj;replace ah:=hid ah;go_wp2_with fail
  refine aj.out.mono ?_;rintro e w8⟨rfl,a8,a2,h8⟩;rw [← ah.out] at a2;go_wp2;go_end0
  exact⟨rfl,a8,au.trans a2,h8⟩
 refine YN rfl (λJ hJ=>?_)
 go_wp2;refine hJ.out _ _ ⟨af.drew.alloc _,ag.drew.alloc _,trivial⟩ ?_;clear hJ J;refine xC [E 3,O 4,E 6] (by kernel_rfl) (λ_=>⟨af.drew.alloc _,ag.drew.alloc _,trivial⟩) ?_
 refine Ws ?_
 refine jJ rfl (by simp) (λJ hJ=>?_);go_wp2_with fail
 have bd:Below W.heap.size W (w3.alloc (.cells #[.int .i64 0,.int .i64 0,.int .i64 0,.int .i64 0,.int .u32 0,.string ⟨#[]⟩] 37)).drew:=zm (zi aa _);refine(ar.out _ (ze ay bd)).mono ?_;rintro e w4⟨rfl,an⟩;have ap:=(af.alloc (.cells #[.int .i64 0,.int .i64 0,.int .i64 0,.int .i64 0,.int .u32 0,.string ⟨#[]⟩] 37)).drew.call an;have ao:=(ag.alloc (.cells #[.int .i64 0,.int .i64 0,.int .i64 0,.int .i64 0,.int .u32 0,.string ⟨#[]⟩] 37)).drew.call an;have a3:=(Blk.new (w:=w3) (cs:=#[.int .i64 0,.int .i64 0,.int .i64 0,.int .i64 0,.int .u32 0,.string ⟨#[]⟩]) (t:=37) rfl).drew.call an;have br:=a3.cell;have bu:=a3.frozen;have bt:=a3.lt;go_wp2;refine hJ.out _ _ ⟨ap,ao,trivial⟩ ?_;clear hJ J
 refine Ws ?_
 refine jJ rfl (by simp) (λJ hJ=>?_);go_wp2;have ai:Below W.heap.size W w4:=ze bd an;obtain⟨w5,ac⟩:∃x,x=((((((w4.setCell ⟨w3.heap.size,0,none⟩ (.int .i64 10)).setCell ⟨w3.heap.size,1,none⟩ (.int .i64 (n:Nat))).setCell ⟨w3.heap.size,2,none⟩ (.int .i64 0)).setCell ⟨w3.heap.size,3,none⟩ (.int .i64 0)).setCell ⟨w3.heap.size,4,none⟩ (.int .u32 0)).setCell ⟨w3.heap.size,5,none⟩ (.string ⟨#[]⟩)):=⟨_,rfl⟩;obtain⟨ob,am⟩:∃x,x=w3.heap.size:=⟨_,rfl⟩;have ad:Below W.heap.size W w5:=by rw [ac];exact(zu (zu (zu (zu (zu (zu ai aa.size _) aa.size _) aa.size _) aa.size _) aa.size _) aa.size _)
 have aq:W.heap.size<=ob:=by rw [am];exact aa.size
 have al:Blk w5 ob #[.int .i64 10,.int .i64 (n:Nat),.int .i64 0,.int .i64 0,.int .u32 0,.string ⟨#[]⟩] 37:=by rw [ac,am];exact((((((a3.set (o:=0) (.int .i64 10)).set (o:=1) (.int .i64 (n:Nat))).set (o:=2) (.int .i64 0)).set (o:=3) (.int .i64 0)).set (o:=4) (.int .u32 0)).set (o:=5) (.string ⟨#[]⟩))
 have a5:Blk w5 W.heap.size #[.int .i64 num,.slice (some ⟨b,0,none⟩) ws.length cap] 109:=by rw [ac];exact((((((ao.other (Nat.ne_of_lt ag.lt) _).other (Nat.ne_of_lt ag.lt) _).other (Nat.ne_of_lt ag.lt) _).other (Nat.ne_of_lt ag.lt) _).other (Nat.ne_of_lt ag.lt) _).other (Nat.ne_of_lt ag.lt) _)
 have a4:Blk w5 w2.heap.size #[.int .i64 2,.int .i64 0,.int .i64 10] 209:=by rw [ac];exact((((((ap.other (Nat.ne_of_lt af.lt) _).other (Nat.ne_of_lt af.lt) _).other (Nat.ne_of_lt af.lt) _).other (Nat.ne_of_lt af.lt) _).other (Nat.ne_of_lt af.lt) _).other (Nat.ne_of_lt af.lt) _)
 rw [← ac,← am];clear ac am;refine hJ.out _ _ ⟨a4,a5,trivial⟩ ?_;clear hJ J;refine jS ?_;have bm:=a5.cell;have bn:=a4.cell;have bk:=al.cell;have bj:=al.frozen;have bo:=al.lt;go_wp2_with fail
 refine(ab.out _ (ze ay ad)).mono ?_;rintro e w6⟨rfl,a0⟩;have ak:=al.call a0;have bp:=ak.cell;have bh:=ak.frozen;have bl:=ak.lt;have a9:=ak.set (o:=2) (.int .i64 (m:Nat));have bf:=a9.cell;obtain⟨w7,ah⟩:∃x,x=w6.setCell ⟨ob,2,none⟩ (.int .i64 (m:Nat)):=⟨_,rfl⟩;have ae:Below W.heap.size W w7:=by rw [ah];exact zu (ze ad a0) aq _
 have h7:=h.out.below ae;have au:zp [1] ow W (ow.cut W) w7:=zp.wrap ae (zp.refl _ _ _);have aj:=Vt h7 he hG.out hk hL hv ⟨10,n,m,0,0,[]⟩ ⟨by simp,by simp,by simp⟩ (.inr (.inr (.inr rfl))) (λ_=>⟨by simp,by simp only;omega⟩) hr.out htl;rw [ah] at aj;replace aj:=hid aj;replace ah:=hid ah;go_wp2_with fail
 refine aj.out.mono ?_;rintro e w8⟨rfl,a8,a2,h8⟩;rw [← ah.out] at a2;go_wp2;go_end0
 exact⟨rfl,a8,au.trans a2,h8⟩
end
section
open Go Go.RowKit Go.Shelf Go.Extern.Stop Go.Stop Go.Extern
attribute [local go_sem] Oper.semAt_some zB zo
variable {w W W':World}{D B:Nat}{K:WK}{S S':zf}{told o:List UInt8}{ow:Own}{a:Addr}{v:Int}{k L:Nat}
theorem zdr {ws:List (List UInt8)}{c:Nat}(h:∀x∈ws,x.length<=c):(xN ws).length<=(c+1)*ws.length+1:=by
 have:=V9 h;unfold xN;rw [N1];simp only [List.length_cons,List.length_nil];omega
theorem Y0 {α:Type}(h0:List UInt8)(hh:h0.length<=5)(l:List α)(f g:α->Nat)(hf:∀x∈l,f x<100/\g x<100)(hl:l.length<=100):(xN (h0::l.map λx=>j0 (f x) (g x))).length<=700:=by
 have:=zdr (ws:=h0::l.map λx=>j0 (f x) (g x)) (c:=5) (λx hx=>by
  rcases List.mem_cons.1 hx with rfl|hx
  ·exact hh
  obtain⟨y,hy,rfl⟩:=List.mem_map.1 hx
  exact Xa (hf y hy).1 (hf y hy).2)
 rw [List.length_cons,List.length_map] at this;omega
theorem zkV(h:xD w D B K S told ow W)(he:jv w a)(hG:zr v k L S)(hk:k+100000<=100000000)(hL:L+1600000<=3000000000)(hv:known v=true)(x:vH)(hx:vw x w)(hR:q8 v S x.ws S' o)(htl:told.length<=1000000):
 ∃s f,x.ws[0]?=some s/\zH s (zju D)=some (v7 D f)/\(∀args w,(callFunc f args).run prog w=.ok (.enter f args) w)/\Calls prog f #[.pointer (some ⟨D,0,none⟩),xR x] W (vZ w D B K S' (told++o) ow W)/\zr v (k+100000) (L+1600000) S'/\o.length<=700:=by
 cases hR with
 |send h0 hl hn hi hd hr=>
  have hg:=hG.doesA (by omega) ⟨1,atP x.ws 1,0,0,0,x.ws[2]?.getD []⟩ (by show(x.ws[2]?.getD []).length<=300;omega) (.inl rfl);rw [hr] at hg;exact⟨_,_,h0,rfl,enters_of func80 (by kernel_rfl) rfl,zdl h he hG (by omega) (by omega) hv x hx hl hn hi hd hr htl,hg.mono (by omega) (by omega),by decide⟩
 |want h0 hl hn hm hi hr=>
  have hg:=hG.doesA (by omega) ⟨10,atP x.ws 1,atP x.ws 2,0,0,[]⟩ (by simp) (.inr (.inr (.inr rfl)));rw [hr] at hg;exact⟨_,_,h0,rfl,enters_of func81 (by kernel_rfl) rfl,zdq h he hG (by omega) (by omega) hv x hx h0 hl hn hm hi hr htl,hg.mono (by omega) (by omega),by decide⟩
 |fair h0 hl hn hr hF hgg=>
  exact⟨_,_,h0,rfl,enters_of func83 (by kernel_rfl) rfl,zdm h he hG hv x hx hl hn hr hF (by omega) (by omega) htl,(hF.good rfl hG (by omega)).mono (by omega) (by omega),by decide⟩
 |log h0 hl hn hi hs hq=>
  exact⟨_,_,h0,rfl,enters_of func84 (by kernel_rfl) rfl,zeO h hG x hx hl hn hi hs hq htl,(hG.lent hi).mono (by omega) (by omega),Y0 _ (by decide) _ _ _ (λm hm=>⟨(hs m hm).1,(hs m hm).2.2⟩) hq⟩
 |eras h0 hl hn hi hs hq=>
  exact⟨_,_,h0,rfl,enters_of func85 (by kernel_rfl) rfl,zdp h hG x hx hl hn hi hs hq htl,(hG.lent hi).mono (by omega) (by omega),Y0 _ (by decide) _ _ _ (λm hm=>⟨(hs m hm).1,(hs m hm).2.2⟩) hq⟩
 |flying h0 hl hq=>
  refine⟨_,_,h0,rfl,enters_of func86 (by kernel_rfl) rfl,QU h x hq htl,hG.mono (by omega) (by omega),?_⟩
  have:=zdr (ws:=[[102,108,121,105,110,103],vr S.notes.length]) (c:=6) (λy hy=>by
   rcases List.mem_cons.1 hy with rfl|hy
   ·decide
   rw [List.mem_singleton.1 hy]
   have:=yK hq
   omega)
  simp only [List.length_cons,List.length_nil] at this;omega
end
open Go Go.RowKit Go.Shelf Go.Extern.Stop Go.Stop Go.Extern
attribute [local go_sem] Oper.semAt_some zB zo
variable {w W W':World}{D B:Nat}{K:WK}{S S':zf}{told o:List UInt8}{ow:Own}{a:Addr}{v:Int}{k L:Nat}
theorem xh.uncons {v:Int}{S S':zf}{l:JK}{r:List JK}{o:List UInt8}(h:xh v S (l::r) S' o):∃S1 o1 o2,q8 v S l.2 S1 o1/\xh v S1 r S' o2/\o=o1++o2:=by
 cases h with
 |cons h1 h2=>exact⟨_,_,_,h1,h2,rfl⟩
theorem xh.none {v:Int}{S S':zf}{o:List UInt8}(h:xh v S [] S' o):o=[]:=by cases h;rfl
theorem zkW(hs:zp [1,0] (λ_=>[]) w ow W)(hW:zK B K S [1,0] ow W):∃ow2,xD w W.heap.size B K S [] ow2 (W.alloc (.cells #[.pointer (some ⟨B,0,none⟩),.slice none 0 0] 104)):=by
 have h2:zp [1,1] ow W (ow.ext W.heap.size (λk=>k=W.heap.size) [1,1]) (W.alloc (.cells #[.pointer (some ⟨B,0,none⟩),.slice none 0 0] 104)):=(zp.alloc [1,1] ow W _).own (λk hk=>Own.ext_old hk);exact⟨_,(hs.mono ⟨[0],rfl⟩).trans (h2.mono ⟨[1],rfl⟩),(zK.loc B K S [1,0]).step hW h2 zlX.symm,.slice none 0 0,Blk.new rfl,⟨rfl,.inl ⟨rfl,rfl⟩⟩,Own.ext_new (N0 _) rfl,λg hg=>by simp [Value.ownBlock] at hg⟩
theorem Vu(text:List UInt8)(hlen:text.length<=1000000)(n:Nat)(er:Int)(hr:qq text=([],n,er))(he:er≠0)(w:World)(hmx:ZG w):Calls prog 19 #[.string (bs text)] w λe w'=>e=.returned (.tuple #[.string (bs []),.int .i64 n,.int .i64 er])/\Below w.heap.size w w':=by
 have aa:=Q4 text hlen w hmx;unfold Xv at aa;rw [hr] at aa;simp only at aa;have t1:(er !=0)=true:=by simpa using he
 replace aa:=hid aa
 go_enter func19,ntmps19
 go_wp2_with fail
 refine aa.out.mono ?_;rintro e w1⟨ab,lv,bl,ac, -, -,rfl⟩;go_wp2;go_ret3
 exact⟨rfl,ab⟩
theorem Qs(text:List UInt8)(hlen:text.length<=1000000)(hr:qq text=(j5 text,0,0))(hR:xh 1 (Zn 3 1 262144 (zt 1)) (j5 text) S' o)(w:World)(hmx:ZG w)(he:jv w a):Calls prog 19 #[.string (bs text)] w λe w'=>e=.returned (.tuple #[.string (bs o),.int .i64 0,.int .i64 0])/\Below w.heap.size w w':=by
 have ai:=Q4 text hlen w hmx;unfold Xv at ai
 have am:(j5 text).length<=300:=by
  unfold qq at hr
  by_cases h1:65536<text.length
  ·rw [if_pos h1] at hr;simp at hr
  rw [if_neg h1] at hr
  by_cases h2:300<(j5 text).length
  ·rw [if_pos h2] at hr;simp at hr
  omega
 rw [hr] at ai;simp only at ai;have bb:zr 1 0 0 (Zn 3 1 262144 (zt 1)):=ziR (by omega) (by omega) (by omega);replace ai:=hid ai;replace bb:=hid bb;replace hR:=hid hR;replace hr:=hid hr
 go_enter func19,ntmps19
 go_wp2_with fail
 refine ai.out.mono ?_;rintro e w1⟨bf,lv,bl,a3,a6,a9,rfl⟩;have ag:=zkN a 3 (by omega) 1 262144 (by decide) (by omega) (by omega) [1,0] (λ_=>[]) w1 (he.below bf he.lt);obtain⟨la,lc,rfl⟩:=a6.shape;have b6:bl.length<=300:=by rw [← a3,List.length_map] at am;exact am
 replace ag:=hid ag;replace a6:=hid a6;replace a3:=hid a3;replace a9:=hid a9;go_wp2_with fail
 refine ag.out.mono ?_;rintro e w2⟨B,K,b3,rfl,be,bv,a8, -⟩;obtain⟨bm,aq⟩:=zkW be a8;replace aq:=hid aq;replace a8:=hid a8;replace be:=hid be;obtain⟨W3,bp⟩:∃x,x=w2.alloc (.cells #[.pointer (some ⟨B,0,none⟩),.slice none 0 0] 104):=⟨_,rfl⟩;obtain⟨D,hD⟩:∃x,x=w2.heap.size:=⟨_,rfl⟩;have bz:=he.below bf he.lt;go_wp2_with fail
 rw [← bp,← hD] at aq⊢;clear bp hD;refine(zkU D W3).mono ?_;rintro e w4⟨rfl,bn,a5⟩;obtain⟨M,hM⟩:∃x,x=W3.heap.size:=⟨_,rfl⟩;rw [← hM] at a5⊢;have ax:=aq.out.below bn;have bq:bm.cut W3 M=[]:=Own.cut_new (by omega);obtain⟨b0,al⟩:∃x,x=bm.cut W3:=⟨_,rfl⟩;rw [← al] at ax bq;clear al hM;have bd:=λW (hW:zZ W M Zc (zju D))=>hW.lookup qG Tryz.underlying105 (z:=.nilFunc) (by kernel_rfl)
 replace ax:=hid ax;replace a5:=hid a5;replace bd:=hid bd;clear aq bn bv;go_wp2
 go_loopw [37] (λp37 wr=>∃(i:Nat)(S2:zf)(told o2:List UInt8)(aj:Own),p37=.int .i64 (i:Nat)/\i<=bl.length/\xh 1 S2 ((bl.drop i).map ZA) S' o2/\told++o2=o/\told.length<=700*i/\zr 1 (100000*i) (1600000*i) S2/\xD w1 D B K S2 told aj wr/\zZ wr M Zc (zju D)/\aj M=[]) (λp37 _=>bl.length - (intOf p37).toNat)
 case atStart=>exact⟨0,_,[],o,b0,rfl,Nat.zero_le _,by rw [List.drop_zero,a3.out];exact hR.out,rfl,Nat.zero_le _,bb.out,ax.out,a5.out,bq⟩
 case round=>
  obtain⟨i,S2,told,o2,aj,rfl,hi,au,ho,b8,ar,ad,ae,bj⟩:=hrel
  by_cases hlt:i<bl.length
  ·have t3:decide ((i:Int)<(bl.length:Int))=true:=by simpa using hlt
   obtain⟨x,hx⟩:∃x,bl[i]?=some x:=⟨_,N3 hlt⟩;have bw:=List.mem_of_getElem? hx;have b4:IntKind.i64.wrap ((i:Int)+1)=(i:Int)+1:=by rw [N8];omega
   have y0:(0:Int)<=(i:Int):=by omega
   have y1:(i:Int)<(bl.length:Int):=by omega
   have aw:=ad.bel;have a4:=a6.out.below aw
   obtain⟨b,ay,rfl⟩:∃b ay,la=some ⟨b,ay,none⟩:=by
    rcases a4.2 with⟨e,h0⟩|⟨b,ay,cap,e, -, -⟩
    ·omega
    cases e;exact⟨b,ay,rfl⟩
   obtain⟨c0,c1⟩:=zaW a4 hx
   have br:(bl.drop i).map ZA=ZA x::(bl.drop (i+1)).map ZA:=by
    rw [List.drop_eq_getElem_cons hlt,(N6.1 hx).2,List.map_cons]
   rw [br] at au;obtain⟨S3,o3,o4,bg,ba,rfl⟩:=au.uncons;have ao:=a9.out x bw;clear au br;have b7:0<x.ws.length:=List.length_pos_iff.2 ao.2.2.1;have y2:(0:Int)<(x.ws.length:Int):=by omega
   obtain⟨w5,ap⟩:∃y,y=wr.alloc (.cells #[.int .i64 x.num,.slice (some ⟨x.b,0,none⟩) x.ws.length x.cap] 109):=⟨_,rfl⟩;have bk:Below wr.heap.size wr w5.drew:=by rw [ap];exact zm (zi (N2 _ _) _)
   have kA:Blk w5.drew wr.heap.size #[.int .i64 x.num,.slice (some ⟨x.b,0,none⟩) x.ws.length x.cap] 109:=by rw [ap];exact(Blk.new rfl).drew
   have a1:=ad.below bk;have ah:=ae.kept (bk.block M ae.lt);have af:(aj.cut wr) M=[]:=(Own.cut_old ae.lt).trans bj;obtain⟨b5,ak⟩:∃y,y=aj.cut wr:=⟨_,rfl⟩;rw [← ak] at a1 af;clear ak;obtain⟨s,f,bc,ab,b2,a2,bh,b1⟩:=zkV a1 bz ar (by omega) (by omega) (by decide) x ao bg (by omega)
   have cS:w5.drew.cell? ⟨x.b,0,none⟩=some (.string (bs s)):=by
    have bo:=ao.below (ze aw bk);rw [bo.1.cell];exact bo.2.2.2.2.2.2 0 s bc
   have a0:=bd.out _ ah s;rw [ab,Option.getD_some] at a0;unfold v7 Zc at a0;unfold xR at a2;replace bc:=hid bc;replace ab:=hid ab;replace a2:=hid a2;replace ar:=hid ar;replace bh:=hid bh;replace bg:=hid bg;replace ba:=hid ba;replace ho:=hid ho;replace hx:=hid hx;replace ao:=hid ao;replace ad:=hid ad;replace a1:=hid a1;replace ae:=hid ae;replace ah:=hid ah;replace a4:=hid a4;replace ap:=hid ap;go_wp2_with fail
   rw [← ap.out];refine zd [O 0,O 1,O 2,O 3,O 4,O 5,O 6,E 7] (some 7) (λw'=>Blk w' wr.heap.size #[.int .i64 x.num,.slice (some ⟨x.b,0,none⟩) x.ws.length x.cap] 109/\w'.cell? ⟨x.b,0,none⟩=some (.string (bs s))/\(Instr.lookup 105 (.map (some M)) (.string (bs s)) false).run prog w'=.ok (.func (.func f) #[.pointer (some ⟨D,0,none⟩)] #[]) w'/\True) (by kernel_rfl) (by kernel_rfl) ⟨kA,cS,a0,trivial⟩ ?_
   (repeat (refine za (v:=?_) rfl rfl (λw' h=>?_) (λK k=>?_);rotate_left;obtain⟨f1,f2,f3,_⟩:=h;have e1:=f1.cell;(try have e3:=f3.cell);go_simp;(try with_reducible rfl);go_simp;refine k _ ?_;clear k K))
   refine zc rfl (λJ hJ=>?_);clear a0 c0 c1;go_wp2_with fail
   refine a2.out.mono ?_;rintro e w7⟨rfl,bu,az,an⟩;have bi:=ah.out.kept (az.block ah.out.lt (by rw [af];exact zj (by simp)));have a7:bu M=[]:=(az.agree M ah.out.lt).trans af;obtain⟨tv,kD,ac, -, -⟩:=an.dk;obtain⟨ta,tc,rfl⟩:=ac.src.shape;have cD:=kD.cell;have aa:(told++o3).length<=700*(i+1):=by rw [N1];omega
   have t4:decide (262144<((told++o3).length:Int))=false:=by simp only [decide_eq_false_iff_not];omega
   replace bi:=hid bi;replace an:=hid an;replace ac:=hid ac;replace aa:=hid aa;replace az:=hid az;obtain⟨t7,bt⟩:∃y,y=told++o3:=⟨_,rfl⟩;rw [← bt] at an ac aa cD t4;go_wp2;refine hJ.out _ _ (λhh=>absurd rfl hh) ?_;clear hJ J;refine zg ?_;go_wp2
   go_roundw
   case rel=>exact⟨i+1,S3,t7,o4,bu,by simp,by omega,ba.out,by rw [bt,List.append_assoc];exact ho.out,aa.out,bh.out.mono (by omega) (by omega),an.out,bi.out,a7⟩
   case measure=>simp [intOf];omega
  obtain rfl:i=bl.length:=by omega
  have t3:decide ((bl.length:Int)<(bl.length:Int))=false:=by simp
  rw [List.drop_length,List.map_nil] at au;obtain rfl:=au.none;rw [List.append_nil] at ho;subst ho;have aw:=ad.bel;obtain⟨tv,kD,ac, -, -⟩:=ad.dk;obtain⟨ta,tc,rfl⟩:=ac.src.shape;have cD:=kD.cell;have b9:=Y6 ac.src;replace ac:=hid ac;replace ad:=hid ad;replace ae:=hid ae;replace ar:=hid ar;go_wp2;go_ret3
  exact⟨rfl,ze bf aw⟩
