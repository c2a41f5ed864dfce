/- PARTS OF THE PROOF. -/
import Derived.Test.YtofppfoioodblaaGreatDoorTC33
set_option maxRecDepth 8000
set_option maxHeartbeats 4000000
open Go.Proofs.Tryz
namespace Go.Proofs.YtofppfoioodblaaGreatDoor
section
open Go Go.RowKit Go.Shelf Go.Extern.Stop Go.Stop Go.Extern
attribute [local go_sem] Oper.semAt_some zB zp
theorem zl.delLead {B:Nat}{K:WK}{tv:Value}{lp:Nat->Option Nat}{S:zf}{t:List Nat}{ow:Own}{W:World}(h:zl B K tv lp S t ow W)(hnd:(S.leads.map (·.1)).Nodup){i:Nat}
 {ps:List (Int×Value)} {o:Obj} (hd:(ps.map (·.1)).Nodup) (hps:∀j:Nat,zE (j:Int) ps=(lp j).map λb=>.pointer (some ⟨b,0,none⟩)) (hM:z6 (W.putObj K.lm o) K.lm Vf (del (i:Int) ps)):
 zt (t++ [17]) ow W ow (W.putObj K.lm o)/\zl B K tv (λj=>if j=i then none else lp j) {S with leads:=del (i:Int) S.leads} t ow (W.putObj K.lm o):=by
 have ac:=h.leadsM.1;have aa:zt (t++ [17]) ow W ow (W.putObj K.lm o):=zt.putObj W K.lm o (by rw [ac];exact Sub.rfl' _);refine⟨aa,h.blk.kept (aa.block h.blk.lt (qU t 17 h.own)),h.own,λj=>?_⟩
 by_cases hj:j=17
 ·subst hj
  refine⟨ac,_,zcC _ hd,hM,λj=>?_⟩;rw [Zo _ _ hd]
  by_cases hji:j=i
  ·subst hji;simp
  rw [if_neg (by omega),hps];simp only [if_neg hji]
 by_cases hji:j=i+32
 ·subst hji
  unfold xg;rw [if_neg (by omega),if_neg (by omega),if_neg (by omega),if_neg (by omega),if_neg (by omega),if_neg (by omega),if_neg (by omega),if_neg (by omega),if_neg (by omega),Nat.add_sub_cancel];simp only [if_true,Zo _ _ hnd]
 have hw:xg B K tv (λj=>if j=i then none else lp j) {S with leads:=del (i:Int) S.leads} t j=xg B K tv lp S t j:=by
  unfold xg;simp only [if_neg hj]
  by_cases hj32:j<32
  ·simp only [if_pos hj32]
  simp only [if_neg (show¬j - 32=i by omega),Zo _ _ hnd,if_neg (show¬((j - 32:Nat):Int)=(i:Int)by omega)]
 rw [hw];exact(ZX B K tv lp S t j).step (h.part j) aa (zS t (Ne.symm hj))
variable {B:Nat}{K:WK}{S:zf}{v:Int}{k0 L:Nat}{t:List Nat}{ow:Own}{a:Addr}{w:World}
theorem zmN(hG:zu v k0 L S)(o:OpD)(i:Nat)(hn:o.node=i)(hi:i<S.nodes.length)(h:zI B K S t ow w):Calls prog 57 #[opV o,.pointer (some ⟨K.bx,0,none⟩)] w (xK B K (setNode {S with leads:=del (i:Int) S.leads} i (vU (zo S i)).1) t ow w (.int .i64 (vU (zo S i)).2)):=by
 obtain⟨af,a5,A,ag,ah,ad⟩:=o;simp only at hn;subst hn;unfold opV;have ai:i<16:=by have:=hG.n0;omega
 have y0:(0:Int)<=(i:Int):=by omega
 have y1:(i:Int)<(S.nodes.length:Int):=by omega
 have ap:Below w.heap.size w (w.alloc (.cells #[.int .i64 af,.int .i64 (i:Nat),.int .i64 A,.int .i64 ag,.int .u32 (ah:Nat),.string (bs ad)] 37)).drew:=zq (zi (N2 _ _) _);have a0:=(zI.loc B K S t).cut h ap;have kO:Blk (w.alloc (.cells #[.int .i64 af,.int .i64 (i:Nat),.int .i64 A,.int .i64 ag,.int .u32 (ah:Nat),.string (bs ad)] 37)).drew w.heap.size #[.int .i64 af,.int .i64 (i:Nat),.int .i64 A,.int .i64 ag,.int .u32 (ah:Nat),.string (bs ad)] 37:=(Blk.new rfl).drew;obtain⟨tv,lp,aa⟩:=a0;have ak:(ow.cut w) w.heap.size=[]:=Own.cut_new (N0 _);obtain⟨w1,aq⟩:∃x,x=w.alloc (.cells #[.int .i64 af,.int .i64 (i:Nat),.int .i64 A,.int .i64 ag,.int .u32 (ah:Nat),.string (bs ad)] 37):=⟨_,rfl⟩;obtain⟨a6,al⟩:∃x,x=ow.cut w:=⟨_,rfl⟩;rw [← al] at aa ak;replace al:=hid al;rw [← aq] at ap kO aa;have eX:=aa.does.2.2.2.cell 0;have a7:S.nodes.length=S.nodes.length:=rfl;have cB:World.cell? _ ⟨B,2,none⟩=some (.map (some K.lm)):=(aa).blk.cell 2;obtain⟨ar,ps,hd,hM,an⟩:=(aa).leadsM;obtain⟨od,aj,au⟩:=hM.delete zbf Tryz.underlying58 #[58,132] 0 rfl (i:Int);unfold Vf at aj;obtain⟨a2,ae⟩:=(aa).delLead hG.leadsN hd an au;have aw:=(kO).putObj (λe=>by rw [e] at ak;rw [ar] at ak;simp at ak) od;replace an:=hid an;replace hM:=hid hM;replace au:=hid au;replace ar:=hid ar;obtain⟨b,am,px,sb,lb,pb,av,hN⟩:=(ae).node ai (hG.node hi).1;have az:=(ae).nodeCell am;have ax:=(ae).does.2.2.2.cell 0;have a1:World.cell? _ ⟨B,0,none⟩=some (.slice (some ⟨K.nb,0,none⟩) S.nodes.length K.nc):=(ae).blk.cell 0;have ao:=(zy.loc b px sb lb pb av (zo S i) (t++ [i])).below hN (zq (N2 _ _));have hc:=zgD _ ao;have ac:=(zl.loc B K tv _ _ t).below ae (zq (N2 _ _));replace hc:=hid hc;replace ac:=hid ac;replace aa:=hid aa;replace hN:=hid hN;replace ao:=hid ao;replace am:=hid am
 go_enter func57,ntmps57
 go_wp2_with fail
 rw [← aq];clear aq;refine zd [O 0,O 1,O 2,O 3,O 4,O 5,E 6,E 7] none (λw'=>w'.cell? ⟨K.bx,0,none⟩=some (.pointer (some ⟨B,0,none⟩))/\w'.cell? ⟨B,2,none⟩=some (.map (some K.lm))/\Blk w' w.heap.size #[.int .i64 af,.int .i64 (i:Nat),.int .i64 A,.int .i64 ag,.int .u32 (ah:Nat),.string (bs ad)] 37/\True) ⟨eX,cB,kO,trivial⟩ ?_
 refine Wn ?_
 refine zc rfl (λJ hJ=>?_);go_wp2;refine hJ.out _ _ (λ_=>⟨eX,cB,kO,trivial⟩) ?_;clear hJ J;refine zc rfl (λJ hJ=>?_);refine yt rfl _ _ _ _ rfl rfl rfl aj ?_;unfold wpList;refine hJ.out _ _ (λ_=>⟨ax,ae.blk.cell 2,aw,trivial⟩) ?_;clear hJ J;refine ze ?_;go_wp2_with fail
 refine yV [O 0,O 1,O 2,O 3,O 4,O 5,O 6,O 7,E 8,O 9] (some 8) (λw'=>w'.cell? ⟨K.bx,0,none⟩=some (.pointer (some ⟨B,0,none⟩))/\w'.cell? ⟨B,0,none⟩=some (.slice (some ⟨K.nb,0,none⟩) S.nodes.length K.nc)/\w'.cell? ⟨K.nb,i,none⟩=some (.pointer (some ⟨b,0,none⟩))/\Blk w' w.heap.size #[.int .i64 af,.int .i64 (i:Nat),.int .i64 A,.int .i64 ag,.int .u32 (ah:Nat),.string (bs ad)] 37/\True) ⟨ax,a1,az,aw,trivial⟩ ?_
 refine Ws ?_
 refine vj rfl (λJ hJ=>?_);go_wp2_with fail
 refine hc.out.mono ?_;rintro e w3⟨rfl,a4,ay,a3⟩;go_wp2;refine hJ.out _ _ ?_;clear hJ J
 refine Wg ?_
 refine jM ?_;go_wp2;go_ret
 exact⟨rfl,a4,zt.wrap ap (by rw [← al.out];exact((a2.mono (Sub.child t 17)).trans (zt.drew _ _ _)).trans (ay.mono (Sub.child t i))),tv,_,ac.out.setNode ai am.out ay a3⟩
theorem zmO(hG:zu v k0 L S)(hv:known v=true)(ht:t≠ [])(o:OpD)(i:Nat)(hn:o.node=i)(hi:i<S.nodes.length)(h:zI B K S t ow w)(he:jK w a)(hge:ow 2=[]):Calls prog 61 #[opV o,.pointer (some ⟨K.bx,0,none⟩)] w (xK B K (setNode {xn S i with leads:=del (i:Int) S.leads} i (jt (zo S i) (zk v))) t ow w (.int .i64 0)):=by
 obtain⟨ac,bi,A,ad,ae,aa⟩:=o;simp only at hn;subst hn;unfold opV;have al:i<16:=by have:=hG.n0;omega
 have y0:(0:Int)<=(i:Int):=by omega
 have y1:(i:Int)<(S.nodes.length:Int):=by omega
 have ay:Below w.heap.size w (w.alloc (.cells #[.int .i64 ac,.int .i64 (i:Nat),.int .i64 A,.int .i64 ad,.int .u32 (ae:Nat),.string (bs aa)] 37)).drew:=zq (zi (N2 _ _) _);have a8:=(zI.loc B K S t).cut h ay;have kO:Blk (w.alloc (.cells #[.int .i64 ac,.int .i64 (i:Nat),.int .i64 A,.int .i64 ad,.int .u32 (ae:Nat),.string (bs aa)] 37)).drew w.heap.size #[.int .i64 ac,.int .i64 (i:Nat),.int .i64 A,.int .i64 ad,.int .u32 (ae:Nat),.string (bs aa)] 37:=(Blk.new rfl).drew;obtain⟨tv,lp,af⟩:=a8;have ak:(ow.cut w) w.heap.size=[]:=Own.cut_new (N0 _);obtain⟨w1,az⟩:∃x,x=w.alloc (.cells #[.int .i64 ac,.int .i64 (i:Nat),.int .i64 A,.int .i64 ad,.int .u32 (ae:Nat),.string (bs aa)] 37):=⟨_,rfl⟩;obtain⟨a1,an⟩:∃x,x=ow.cut w:=⟨_,rfl⟩;rw [← an] at af ak;replace an:=hid an;rw [← az] at ay kO af;have eX:=af.does.2.2.2.cell 0;have bk:S.nodes.length=S.nodes.length:=rfl;have bc:World.cell? w1.drew ⟨B,1,none⟩=some (.slice (some ⟨K.sb,0,none⟩) S.nodes.length S.nodes.length):=af.blk.cell 1;obtain⟨bd,bj,am⟩:=af.srow;have g3:World.cell? w1.drew ⟨K.sb,i*5+3,none⟩=some (.bool (jo S i).stale):=am.cellL (jD (hG.seat hi) (j:=3) (by decide));have f3:∀o,World.frozen? w1.drew ⟨K.sb,o,none⟩=false:=am.frozen;have l3:K.sb<w1.drew.heap.size:=am.lt;obtain⟨a9,ag⟩:=af.setSeat (v:=.bool true) (s':={jo S i with stale:=true}) (hG.seat hi) (j:=3) (by decide) rfl;have be:Blk (w1.drew.setCell ⟨K.sb,i*5+3,none⟩ (.bool true)) w.heap.size #[.int .i64 ac,.int .i64 (i:Nat),.int .i64 A,.int .i64 ad,.int .u32 (ae:Nat),.string (bs aa)] 37:=kO.other (p:=⟨K.sb,i*5+3,none⟩) (λe=>by have e':w.heap.size=K.sb:=e;rw [e',bd] at ak;simp at ak) _;have aq:=(zl.loc B K tv lp _ t).below ag (zq (N2 _ _));have aw:zt t a1 w1.drew a1 (w1.drew.setCell ⟨K.sb,i*5+3,none⟩ (.bool true)).drew:=(a9.mono (Sub.child t 21)).trans (zt.drew _ _ _);have a4:=aq.does.2.2.2.cell 0;have ai:Blk (w1.drew.setCell ⟨K.sb,i*5+3,none⟩ (.bool true)).drew w.heap.size #[.int .i64 ac,.int .i64 (i:Nat),.int .i64 A,.int .i64 ad,.int .u32 (ae:Nat),.string (bs aa)] 37:=be.drew;replace am:=hid am;replace ag:=hid ag;replace af:=hid af;have cB:World.cell? _ ⟨B,2,none⟩=some (.map (some K.lm)):=(aq).blk.cell 2;obtain⟨a0,ps,hd,hM,au⟩:=(aq).leadsM;obtain⟨od,ap,a2⟩:=hM.delete zbf Tryz.underlying58 #[58,132] 0 rfl (i:Int);unfold Vf at ap;obtain⟨bb,aj⟩:=(aq).delLead hG.leadsN hd au a2;have a3:=(ai).putObj (λe=>by rw [e] at ak;rw [a0] at ak;simp at ak) od;replace au:=hid au;replace hM:=hid hM;replace a2:=hid a2;replace a0:=hid a0;obtain⟨b,ar,px,sb,lb,pb,av,hN⟩:=(aj).node al (hG.node hi).1;have a7:=(aj).nodeCell ar;have a5:=(aj).does.2.2.2.cell 0;have ba:World.cell? _ ⟨B,0,none⟩=some (.slice (some ⟨K.nb,0,none⟩) S.nodes.length K.nc):=(aj).blk.cell 0;have ax:=(zy.loc b px sb lb pb av (zo S i) (t++ [i])).below hN (zq (N2 _ _));have ah:=(zl.loc B K tv _ _ t).below aj (zq (N2 _ _));have ao:zt t ow w a1 ((w1.drew.setCell ⟨K.sb,i*5+3,none⟩ (.bool true)).drew.putObj K.lm od).drew:=zt.wrap ay (by rw [← an.out];exact(aw.trans (bb.mono (Sub.child t 17))).trans (zt.drew _ _ _));have bh:=he.lt;have hc:=zct a b _ _ (by simp) _ _ ax (he.step ht ao hge) (by rw [an.out,Own.cut_old bh];exact hge) (by rw [show(zo S i).version=v from(hG.node hi).2.ver];exact hv) (by have:=(hG.node hi).2.ok.bounds.1;exact this);rw [show(zo S i).version=v from(hG.node hi).2.ver] at hc;replace hc:=hid hc;replace ah:=hid ah;replace hN:=hid hN;replace ax:=hid ax;replace ar:=hid ar
 go_enter func61,ntmps61
 go_wp2_with fail
 rw [← az];clear az;refine zd [O 0,O 1,O 2,O 3,O 4,O 5,O 6,O 7,E 8] (some 8) (λw'=>w'.cell? ⟨K.bx,0,none⟩=some (.pointer (some ⟨B,0,none⟩))/\w'.cell? ⟨B,1,none⟩=some (.slice (some ⟨K.sb,0,none⟩) S.nodes.length S.nodes.length)/\Blk w' w.heap.size #[.int .i64 ac,.int .i64 (i:Nat),.int .i64 A,.int .i64 ad,.int .u32 (ae:Nat),.string (bs aa)] 37/\True) ⟨eX,bc,kO,trivial⟩ ?_
 refine Wn ?_
 refine zc rfl (λJ hJ=>?_);go_wp2;refine hJ.out _ _ (λhh=>absurd rfl hh) ?_;clear hJ J;refine ze ?_;go_wp2_with fail
 refine zd [O 0,O 1,O 2,O 3,O 4,O 5,E 6,E 7] none (λw'=>w'.cell? ⟨K.bx,0,none⟩=some (.pointer (some ⟨B,0,none⟩))/\w'.cell? ⟨B,2,none⟩=some (.map (some K.lm))/\Blk w' w.heap.size #[.int .i64 ac,.int .i64 (i:Nat),.int .i64 A,.int .i64 ad,.int .u32 (ae:Nat),.string (bs aa)] 37/\True) ⟨a4,cB,ai,trivial⟩ ?_
 refine Wn ?_
 refine zc rfl (λJ hJ=>?_);go_wp2;refine hJ.out _ _ (λ_=>⟨a4,cB,ai,trivial⟩) ?_;clear hJ J;refine zc rfl (λJ hJ=>?_);refine yt rfl _ _ _ _ rfl rfl rfl ap ?_;unfold wpList;refine hJ.out _ _ (λ_=>⟨a5,aj.blk.cell 2,a3,trivial⟩) ?_;clear hJ J;refine ze ?_;go_wp2_with fail
 refine yV [O 0,O 1,O 2,O 3,O 4,O 5,O 6,O 7,E 8,O 9] (some 8) (λw'=>w'.cell? ⟨K.bx,0,none⟩=some (.pointer (some ⟨B,0,none⟩))/\w'.cell? ⟨B,0,none⟩=some (.slice (some ⟨K.nb,0,none⟩) S.nodes.length K.nc)/\w'.cell? ⟨K.nb,i,none⟩=some (.pointer (some ⟨b,0,none⟩))/\Blk w' w.heap.size #[.int .i64 ac,.int .i64 (i:Nat),.int .i64 A,.int .i64 ad,.int .u32 (ae:Nat),.string (bs aa)] 37/\True) ⟨a5,ba,a7,a3,trivial⟩ ?_
 refine Ws ?_
 refine vj rfl (λJ hJ=>?_);go_wp2_with fail
 refine hc.out.mono ?_;rintro e w3⟨rfl,bg,a6,bf⟩;go_wp2;refine hJ.out _ _ ?_;clear hJ J
 refine Wg ?_
 refine jM ?_;go_wp2;go_ret
 exact⟨rfl,bg,ao.trans (a6.mono (Sub.child t i)),tv,_,ah.out.setNode al ar.out a6 bf⟩
end
section
open Go Go.RowKit Go.Shelf Go.Extern.Stop Go.Stop Go.Extern
attribute [local go_sem] Oper.semAt_some zB zp
variable {B:Nat}{K:WK}{S:zf}{v:Int}{k0 L:Nat}{t:List Nat}{ow:Own}{a:Addr}{w:World}
theorem zmP(hG:zu v k0 L S)(ht:t≠ [])(o:OpD)(ho:zmm o)(i:Nat)(hn:o.node=i)(hi:i<S.nodes.length)(h:zI B K S t ow w):Calls prog 45 #[opV o,.pointer (some ⟨K.bx,0,none⟩)] w (xK B K (setNode (xn S i) i (zv (zo S i) o.s).1) t ow w (.int .i64 (zv (zo S i) o.s).2.2)):=by
 have bd:=ho.len;clear ho;obtain⟨ad,bv,A,af,ag,aa⟩:=o;simp only at hn;subst hn;unfold opV;have ai:i<16:=by have:=hG.n0;omega
 have y0:(0:Int)<=(i:Int):=by omega
 have y1:(i:Int)<(S.nodes.length:Int):=by omega
 have a7:Below w.heap.size w (w.alloc (.cells #[.int .i64 ad,.int .i64 (i:Nat),.int .i64 A,.int .i64 af,.int .u32 (ag:Nat),.string (bs aa)] 37)).drew:=zq (zi (N2 _ _) _);have bh:=(zI.loc B K S t).cut h a7;have kO:Blk (w.alloc (.cells #[.int .i64 ad,.int .i64 (i:Nat),.int .i64 A,.int .i64 af,.int .u32 (ag:Nat),.string (bs aa)] 37)).drew w.heap.size #[.int .i64 ad,.int .i64 (i:Nat),.int .i64 A,.int .i64 af,.int .u32 (ag:Nat),.string (bs aa)] 37:=(Blk.new rfl).drew;obtain⟨tv,lp,ah⟩:=bh;have au:(ow.cut w) w.heap.size=[]:=Own.cut_new (N0 _);obtain⟨w1,a8⟩:∃x,x=w.alloc (.cells #[.int .i64 ad,.int .i64 (i:Nat),.int .i64 A,.int .i64 af,.int .u32 (ag:Nat),.string (bs aa)] 37):=⟨_,rfl⟩;obtain⟨ar,aw⟩:∃x,x=ow.cut w:=⟨_,rfl⟩;rw [← aw] at ah au;replace aw:=hid aw;rw [← a8] at a7 kO ah;have eX:=ah.does.2.2.2.cell 0;have b1:S.nodes.length=S.nodes.length:=rfl;simp only at bd;have bn:World.cell? w1.drew ⟨B,1,none⟩=some (.slice (some ⟨K.sb,0,none⟩) S.nodes.length S.nodes.length):=ah.blk.cell 1;obtain⟨bo,bz,ap⟩:=ah.srow;have g3:World.cell? w1.drew ⟨K.sb,i*5+3,none⟩=some (.bool (jo S i).stale):=ap.cellL (jD (hG.seat hi) (j:=3) (by decide));have f3:∀o,World.frozen? w1.drew ⟨K.sb,o,none⟩=false:=ap.frozen;have l3:K.sb<w1.drew.heap.size:=ap.lt;obtain⟨bj,ak⟩:=ah.setSeat (v:=.bool true) (s':={jo S i with stale:=true}) (hG.seat hi) (j:=3) (by decide) rfl;have bq:Blk (w1.drew.setCell ⟨K.sb,i*5+3,none⟩ (.bool true)) w.heap.size #[.int .i64 ad,.int .i64 (i:Nat),.int .i64 A,.int .i64 af,.int .u32 (ag:Nat),.string (bs aa)] 37:=kO.other (p:=⟨K.sb,i*5+3,none⟩) (λe=>by have e':w.heap.size=K.sb:=e;rw [e',bo] at au;simp at au) _;have ae:=(zl.loc B K tv lp _ t).below ak (zq (N2 _ _));have ao:zt t ar w1.drew ar (w1.drew.setCell ⟨K.sb,i*5+3,none⟩ (.bool true)).drew:=(bj.mono (Sub.child t 21)).trans (zt.drew _ _ _);have bm:=ae.does.2.2.2.cell 0;have ac:Blk (w1.drew.setCell ⟨K.sb,i*5+3,none⟩ (.bool true)).drew w.heap.size #[.int .i64 ad,.int .i64 (i:Nat),.int .i64 A,.int .i64 af,.int .u32 (ag:Nat),.string (bs aa)] 37:=bq.drew;replace ap:=hid ap;replace ak:=hid ak;replace ah:=hid ah;obtain⟨wA,ay⟩:∃x,x=(w1.setCell ⟨K.sb,i*5+3,none⟩ (.bool true)).drew.drew:=⟨_,rfl⟩;have aq:(w1.drew.setCell ⟨K.sb,i*5+3,none⟩ (.bool true)).drew=wA:=by rw [ay];rfl
 rw [aq] at ae ao ac bm;clear aq;obtain⟨b,a9,px,sb,lb,pb,av,hN⟩:=(ae).node ai (hG.node hi).1;have az:=(ae).nodeCell a9;have a4:=(ae).does.2.2.2.cell 0;have a2:World.cell? _ ⟨B,0,none⟩=some (.slice (some ⟨K.nb,0,none⟩) S.nodes.length K.nc):=(ae).blk.cell 0;have an:zt t ow w ar wA:=zt.wrap a7 (by rw [← aw.out];exact ao);have b0:ar w.heap.size=[]:=au;have bb:=(hG.node hi).2.ok.2;have bw:=(hG.node hi).2.few.1;have aj:=λW ow' hW=>QB (px:=px) (sb:=sb) (lb:=lb) (pb:=pb) (av:=av) b (zo S i) (t++ [i]) (by simp) ow' aa (by omega) W hW bb (by omega)
 obtain⟨⟨m,⟨⟨mi,mc⟩,md⟩,er⟩,ax⟩:∃q,zv (zo S i) aa=q:=⟨_,rfl⟩;rw [ax] at aj;simp only [ax];unfold ziO y7 at aj;simp only at aj;replace aj:=hid aj;replace ax:=hid ax;replace bb:=hid bb
 go_enter func45,ntmps45
 go_wp2_with fail
 rw [← a8];clear a8;refine zd [O 0,O 1,O 2,O 3,O 4,O 5,O 6,O 7,E 8] (some 8) (λw'=>w'.cell? ⟨K.bx,0,none⟩=some (.pointer (some ⟨B,0,none⟩))/\w'.cell? ⟨B,1,none⟩=some (.slice (some ⟨K.sb,0,none⟩) S.nodes.length S.nodes.length)/\Blk w' w.heap.size #[.int .i64 ad,.int .i64 (i:Nat),.int .i64 A,.int .i64 af,.int .u32 (ag:Nat),.string (bs aa)] 37/\True) ⟨eX,bn,kO,trivial⟩ ?_
 refine Wn ?_
 refine zc rfl (λJ hJ=>?_);go_wp2;refine hJ.out _ _ (λhh=>absurd rfl hh) ?_;clear hJ J;refine ze ?_;go_wp2_with fail
 refine xF [O 0,O 1,O 2,O 3,O 4,O 5,O 6,O 7,O 8,O 9] (some 10) (λw'=>w'.cell? ⟨K.bx,0,none⟩=some (.pointer (some ⟨B,0,none⟩))/\w'.cell? ⟨B,0,none⟩=some (.slice (some ⟨K.nb,0,none⟩) S.nodes.length K.nc)/\w'.cell? ⟨K.nb,i,none⟩=some (.pointer (some ⟨b,0,none⟩))/\Blk w' w.heap.size #[.int .i64 ad,.int .i64 (i:Nat),.int .i64 A,.int .i64 af,.int .u32 (ag:Nat),.string (bs aa)] 37/\True) #[true,true,true,true,true,true,true,true,true,true,false,false,false,false,false,false,false] (m:=7) (by kernel_rfl) (by kernel_rfl) (by rw [← ay];exact⟨a4,a2,az,ac,trivial⟩) ?_;rw [← ay];clear ay
 (repeat (refine zF (v:=?_) rfl rfl (λw' h=>?_) (λK k=>?_);rotate_left;obtain⟨f1,f2,f3,f4,_⟩:=h;(try have e1:=f1.cell);(try have e2:=f2.cell);(try have e3:=f3.cell);(try have e4:=f4.cell);go_simp;(try with_reducible rfl);go_simp;refine k _ ?_;clear k K))
 refine jM (λ_=>?_);refine zcx 10 [14] (by kernel_rfl) ?_ (zan ?_ zcy)
 ·refine zcA rfl (by decide) (λJ hJ=>?_)
  go_wp2_with fail
  refine(aj.out _ _ hN).mono ?_;rintro e w2⟨rfl,a1,am,a3⟩;have a0:=ae.setNode ai a9 am a3;have al:=an.trans (am.mono (Sub.child t i));go_wp2;refine hJ.out _ _ ?_;clear hJ J;refine qV [O 11,O 12,O 13,E 14,E 15,O 16] (by kernel_rfl) (λ_=>trivial) ?_
  refine Wg ?_
  refine yP rfl (by simp) (λJ hJ=>?_);go_wp2;refine hJ.out _ _ trivial ?_;clear hJ J;refine yP rfl (by simp) (λJ hJ=>?_);go_wp2;refine hJ.out _ _ trivial ?_;clear hJ J
  refine Wg ?_
  refine jM ?_;go_wp2;go_ret
  exact⟨rfl,_,al.trans (zt.wrap (zi (N2 _ _) _) (zt.refl _ _ _)),tv,lp,(zl.loc B K tv lp _ t).cut a0 (zi (N2 _ _) _)⟩
 refine zcz rfl (λJ hJ=>?_)
 go_wp2;refine hJ.out _ _ ⟨jI a4 _,jI a2 _,jI az _,ac.alloc _,trivial⟩ ?_;clear hJ J;refine qV [E 10,O 11,O 12,O 13,E 15,O 16] (by kernel_rfl) (λ_=>⟨jI a4 _,jI a2 _,jI az _,ac.alloc _,trivial⟩) ?_;refine vj rfl (λJ hJ=>?_);go_wp2_with fail
 have a6:Below wA.heap.size wA (wA.alloc (.cells #[.int .i64 0,.int .u32 0,.string ⟨#[]⟩] 78)):=zi (N2 _ _) _;have kV:Blk (wA.alloc (.cells #[.int .i64 0,.int .u32 0,.string ⟨#[]⟩] 78)) wA.heap.size #[.int .i64 0,.int .u32 0,.string ⟨#[]⟩] 78:=Blk.new rfl;have bp:=(zl.loc B K tv lp _ t).cut ae a6;have bg:=(zy.loc _ _ _ _ _ _ _ _).cut hN a6;have bf:(ar.cut wA) wA.heap.size=[]:=Own.cut_new (N0 _);refine(aj.out _ _ bg).mono ?_;rintro e w2⟨rfl,a1,am,a3⟩;have a0:=bp.setNode ai a9 am a3;have a5:=kV.kept (am.block kV.lt (by rw [bf];exact zj (by simp)));have bt:a1 wA.heap.size=[]:=(am.agree _ kV.lt).trans bf;have al:zt t ow w a1 w2:=an.trans (zt.wrap a6 (am.mono (Sub.child t i)));have bi:=a5.cell;have bl:=a5.frozen;have bk:=a5.lt;go_wp2;refine hJ.out _ _ ?_;clear hJ J
 refine Wg ?_
 refine yP rfl (by simp) (λJ hJ=>?_);go_wp2;refine hJ.out _ _ trivial ?_;clear hJ J bi bl bk
 refine Wg ?_
 refine jM ?_;obtain⟨w3,bc⟩:∃x,x=((w2.setCell ⟨wA.heap.size,0,none⟩ (.int .i64 mi)).setCell ⟨wA.heap.size,1,none⟩ (.int .u32 (mc:Nat))).setCell ⟨wA.heap.size,2,none⟩ (.string (bs md)):=⟨_,rfl⟩;have be:Mod (λk=>k=wA.heap.size) w2 w3:=by rw [bc];exact(((Mod.refl (λk=>k=wA.heap.size) w2).thenSet (p:=⟨wA.heap.size,0,none⟩) rfl _).thenSet (p:=⟨wA.heap.size,1,none⟩) rfl _).thenSet (p:=⟨wA.heap.size,2,none⟩) rfl _
 rw [← bc];clear bc;have bu:=(zl.loc B K tv lp _ t).modFree ht a0 bt be;have br:=an.size;have ba:=al.modNew br be;go_wp2;go_ret
 exact⟨rfl,_,ba,tv,lp,bu⟩
end
section
open Go Go.RowKit Go.Shelf Go.Extern.Stop Go.Stop Go.Extern
attribute [local go_sem] Oper.semAt_some zB zp
variable {B:Nat}{K:WK}{S:zf}{v:Int}{k0 L:Nat}{t:List Nat}{ow:Own}{a:Addr}{w:World}
theorem zje(hG:zu v k0 L S)(hL:L<=3000000000)(hv:known v=true)(ht:t≠ [])(o:OpD)(ho:zmm o)(k:Nat)(hk:k=1∨k=2∨k=3∨k=9∨k=10)(hkd:o.kind=k)(hi:¬(3<=o.kind/\o.kind<=6)->0<=o.node/\o.node<S.nodes.length)
 (h:zI B K S t ow w) (he:jK w a) (hge:ow 2=[]):Calls prog (zc3 k) #[opV o,.pointer (some ⟨K.bx,0,none⟩)] w (xK B K (yg S (zk v) o).1 t ow w (.int .i64 (yg S (zk v) o).2)):=by
 have hn:¬(3<=o.kind/\o.kind<=6)->o.node=(o.node.toNat:Nat)/\o.node.toNat<S.nodes.length:=λhk=>by have:=hi hk;omega
 rcases hk with rfl|rfl|rfl|rfl|rfl
 ·have:=hn (by rw [hkd];decide)
  have hd:yg S (zk v) o=(setNode (xn S o.node.toNat) o.node.toNat (zv (zo S o.node.toNat) o.s).1,(zv (zo S o.node.toNat) o.s).2.2):=by unfold yg;simp [hkd]
  rw [hd];exact zmP hG ht o ho _ this.1 this.2 h
 ·have:=hn (by rw [hkd];decide)
  have hd:yg S (zk v) o=yw S o.node.toNat:=by unfold yg;simp [hkd]
  rw [hd];exact zmL hG hL ht o _ this.1 this.2 h
 ·have hd:yg S (zk v) o=xR S o.a:=by unfold yg;simp [hkd]
  rw [hd];exact zmK hG hL ht o h he hge
 ·have:=hn (by rw [hkd];decide)
  have hd:yg S (zk v) o=(setNode {xn S o.node.toNat with leads:=del o.node S.leads} o.node.toNat (jt (zo S o.node.toNat) (zk v)),0):=by unfold yg;simp [hkd]
  rw [hd];have h9:=zmO hG hv ht o _ this.1 this.2 h he hge
  rwa [← this.1] at h9
 have:=hn (by rw [hkd];decide)
 have hd:yg S (zk v) o=(setNode S o.node.toNat (JI (zo S o.node.toNat) o.a).1,(JI (zo S o.node.toNat) o.a).2):=by unfold yg;simp [hkd]
 rw [hd];exact zmn hG o _ this.1 this.2 h
theorem zjf(hG:zu v k0 L S)(o:OpD)(k:Nat)(hk:k=7∨k=8)(hkd:o.kind=k)(hi:¬(3<=o.kind/\o.kind<=6)->0<=o.node/\o.node<S.nodes.length)
 (h:zI B K S t ow w):Calls prog (zc3 k) #[opV o,.pointer (some ⟨K.bx,0,none⟩)] w (xK B K (yg S (zk v) o).1 t ow w (.int .i64 (yg S (zk v) o).2)):=by
 have hn:¬(3<=o.kind/\o.kind<=6)->o.node=(o.node.toNat:Nat)/\o.node.toNat<S.nodes.length:=λhk=>by have:=hi hk;omega
 rcases hk with rfl|rfl
 ·have:=hn (by rw [hkd];decide)
  have hd:yg S (zk v) o=(setNode {S with leads:=del o.node S.leads} o.node.toNat (vU (zo S o.node.toNat)).1,(vU (zo S o.node.toNat)).2):=by unfold yg;simp [hkd]
  rw [hd];have h7:=zmN hG o _ this.1 this.2 h
  rwa [← this.1] at h7
 have:=hn (by rw [hkd];decide)
 have hd:yg S (zk v) o=(setNode S o.node.toNat (J4 (zo S o.node.toNat) o.a).1,(J4 (zo S o.node.toNat) o.a).2):=by unfold yg;simp [hkd]
 rw [hd];exact zmM hG o _ this.1 this.2 h
theorem zlO(bx:Nat){k:Nat}(h:1<=k/\k<=10):zE (k:Int) (zek bx)=some (Vh bx k):=by
 rcases(by omega:k=1∨k=2∨k=3∨k=4∨k=5∨k=6∨k=7∨k=8∨k=9∨k=10)with rfl|rfl|rfl|rfl|rfl|rfl|rfl|rfl|rfl|rfl<;>rfl
theorem zc4 {k:Nat}(h:1<=k/\k<=10):∀args w,(callFunc (zc3 k) args).run prog w=.ok (.enter (zc3 k) args) w:=by
 rcases(by omega:k=1∨k=2∨k=3∨k=4∨k=5∨k=6∨k=7∨k=8∨k=9∨k=10)with rfl|rfl|rfl|rfl|rfl|rfl|rfl|rfl|rfl|rfl
 ·exact enters_of func45 (by kernel_rfl) rfl
 ·exact enters_of func47 (by kernel_rfl) rfl
 ·exact enters_of func49 (by kernel_rfl) rfl
 ·exact enters_of func51 (by kernel_rfl) rfl
 ·exact enters_of func53 (by kernel_rfl) rfl
 ·exact enters_of func55 (by kernel_rfl) rfl
 ·exact enters_of func57 (by kernel_rfl) rfl
 ·exact enters_of func59 (by kernel_rfl) rfl
 ·exact enters_of func61 (by kernel_rfl) rfl
 exact enters_of func63 (by kernel_rfl) rfl
end
section
open Go Go.RowKit Go.Shelf Go.Extern.Stop Go.Stop Go.Extern
attribute [local go_sem] Oper.semAt_some zB zp
variable {B:Nat}{K:WK}{S:zf}{v:Int}{k0 L:Nat}{t:List Nat}{ow:Own}{a:Addr}{w:World}
theorem zev {tv:Value}{lp:Nat->Option Nat}{W:World}(hI:zl B K tv lp S t ow W){i:Int}(hl:S.trace.length<=1000000000):
 ∃sa sc W7,(Builtin.append_ #[40,40] 40 #[tv,.slice (some ⟨W.heap.size,0,none⟩) 1 1]).run prog (W.alloc (.cells #[.int .i64 2,.int .i64 i,.int .i64 0,.int .u32 0,.string ⟨#[]⟩] 80))=.ok (.slice sa (S.trace.length+1) sc) W7/\
  W7.cell? ⟨B,6,none⟩=some tv/\(∀o,W7.frozen? ⟨B,o,none⟩=false)/\B<W7.heap.size/\(∀k,k<W.heap.size->ow k=[] ->W7.heap[k]?=W.heap[k]?)/\
  ∃ow',zt t ow W ow' (W7.setCell ⟨B,6,none⟩ (.slice sa (S.trace.length+1) sc))/\zI B K {S with trace:=S.trace++ [(2,i,((0,0),[]))] } t ow' (W7.setCell ⟨B,6,none⟩ (.slice sa (S.trace.length+1) sc)):=by
 have af:Below W.heap.size W (W.alloc (.cells #[.int .i64 2,.int .i64 i,.int .i64 0,.int .u32 0,.string ⟨#[]⟩] 80)):=zi (N2 _ _) _;have k5:Blk (W.alloc (.cells #[.int .i64 2,.int .i64 i,.int .i64 0,.int .u32 0,.string ⟨#[]⟩] 80)) W.heap.size #[.int .i64 2,.int .i64 i,.int .i64 0,.int .u32 0,.string ⟨#[]⟩] 80:=Blk.new rfl;have ae:Src (W.alloc (.cells #[.int .i64 2,.int .i64 i,.int .i64 0,.int .u32 0,.string ⟨#[]⟩] 80)) (.slice (some ⟨W.heap.size,0,none⟩) 1 1) 5 [((2,i,(0,0),[]):xV)].length ([((2,i,(0,0),[]):xV)].flatMap jf):=jP (n:=1) (size:=5) (cap:=1) k5 rfl (N0 1);have ac:=(zl.loc B K tv lp _ t).cut hI af;obtain⟨an,W7,ad,ag,ah,ai⟩:=zQ zmJ ac.trow.2 ae (ZZ _) (by simp;omega) 40
 have aa:Row W7 80 5 an (S.trace++ [(2,i,(0,0),[])]).length ((S.trace++ [(2,i,(0,0),[])]).flatMap jf):=by
  rw [N1,U5];exact ag
 obtain⟨sa,sc,rfl⟩:=aa.wideV.shape;obtain⟨al,ak,am,aj⟩:=ac.setTrace aa ah ai;simp only [N1,U2] at ak aj ad;have k7:=ac.blk.kept (w':=W7) (ah.block B ac.blk.lt (λe=>(ac.trow.2).ne_blk ac.blk (by decide) e.symm rfl));exact⟨sa,sc,W7,ad,k7.cell 6,k7.frozen,k7.lt,λk hk ho=>(ah.block k (Nat.lt_of_lt_of_le hk af.size) (λe=>by have:=hI.trow.1 k e.symm;rw [ho] at this;simp at this)).trans (af.block k hk),al,zt.wrap af ak,_,_,aj⟩
theorem zfu(hk0:k0<=100000000)(ht:t≠ [])(o:OpD)(hG2:zu v k0 (L+16) (yg S (zk v) o).1)(hdeed:∀ow w,zI B K S t ow w->jK w a->ow 2=[] ->Calls prog (zc3 o.kind.toNat) #[opV o,.pointer (some ⟨K.bx,0,none⟩)] w (xK B K (yg S (zk v) o).1 t ow w (.int .i64 (yg S (zk v) o).2)))(k:Nat)(hk:1<=k/\k<=10)(hkd:o.kind=k)(hbad:¬(3<=o.kind/\o.kind<=6)->0<=o.node/\o.node<S.nodes.length)
 (h:zI B K S t ow w) (he:jK w a) (hge:ow 2=[]):Calls prog 13 #[.pointer (some ⟨B,0,none⟩),opV o] w (xK B K (doW (zk v) S o).1 t ow w (.int .i64 (doW (zk v) S o).2)):=by
 have hi:=hbad;unfold opV;obtain⟨a3,ac,A,af,ag,ae⟩:=o;have a7:Below w.heap.size w (w.alloc (.cells #[.int .i64 a3,.int .i64 ac,.int .i64 A,.int .i64 af,.int .u32 (ag:Nat),.string (bs ae)] 37)):=zi (N2 _ _) _;have bu:=(zI.loc B K S t).cut h a7;have kO:Blk (w.alloc (.cells #[.int .i64 a3,.int .i64 ac,.int .i64 A,.int .i64 af,.int .u32 (ag:Nat),.string (bs ae)] 37)) w.heap.size #[.int .i64 a3,.int .i64 ac,.int .i64 A,.int .i64 af,.int .u32 (ag:Nat),.string (bs ae)] 37:=Blk.new rfl;have a6:(ow.cut w) w.heap.size=[]:=Own.cut_new (N0 _);obtain⟨tv,lp,an⟩:=bu;obtain⟨w1,a8⟩:∃x,x=w.alloc (.cells #[.int .i64 a3,.int .i64 ac,.int .i64 A,.int .i64 af,.int .u32 (ag:Nat),.string (bs ae)] 37):=⟨_,rfl⟩;obtain⟨bd,aw⟩:∃x,x=ow.cut w:=⟨_,rfl⟩;rw [← aw] at an a6;rw [← a8] at a7 kO an;have bb:=YI w1 an;have bl:=λW hW=>Qe (B:=B) (K:=K) (tv:=tv) (lp:=lp) (S:=S) (t:=t) (ow:=bd) ac W hW
 have bc:=λW=>zen a3 W
 have c5:w1.drew.cell? ⟨B,5,none⟩=some (.map (some K.dm)):=an.blk.cell 5;have br:z6 w1.drew K.dm zgZ (zek K.bx):=an.does.2.2.1;have a5:=λW (hW:z6 W K.dm zgZ (zek K.bx))=>hW.lookup_ok vQ Tryz.underlying63 (z:=.nilFunc) (by kernel_rfl) a3
 simp only at hkd hbad;simp only at hi;subst hkd;simp only [zlO K.bx hk] at a5;have b3:=he.lt;have bk:zI B K S t bd w1.drew:=⟨tv,lp,(zl.loc B K tv lp S t).below an (zq (N2 _ _))⟩;have be:zt t ow w bd w1.drew:=zt.wrap a7 (by rw [← aw];exact zt.drew _ _ _);have bv:jK w1.drew a:=he.step ht be hge;have bn:bd 2=[]:=by rw [aw,Own.cut_old b3];exact hge
 have ak:=hdeed _ _ bk bv bn;simp only [Int.toNat_natCast] at ak;clear hdeed
 have aa:doW (zk v) S ⟨(k:Int),ac,A,af,ag,ae⟩=if(k:Int)=1/\(yg S (zk v) ⟨(k:Int),ac,A,af,ag,ae⟩).2≠0 then({vq (yg S (zk v) ⟨(k:Int),ac,A,af,ag,ae⟩).1 with trace:=(vq (yg S (zk v) ⟨(k:Int),ac,A,af,ag,ae⟩).1).trace++ [(2,ac,((0,0),[]))] },(yg S (zk v) ⟨(k:Int),ac,A,af,ag,ae⟩).2)else(vq (yg S (zk v) ⟨(k:Int),ac,A,af,ag,ae⟩).1,(yg S (zk v) ⟨(k:Int),ac,A,af,ag,ae⟩).2):=by
  unfold doW;rw [if_neg (by simp only;omega),if_neg (by simp only;omega)]
 obtain⟨⟨S2,er⟩,bh⟩:∃q,yg S (zk v) ⟨(k:Int),ac,A,af,ag,ae⟩=q:=⟨_,rfl⟩;rw [bh] at ak hG2 aa;simp only at ak hG2 aa;have bj:=hG2.tell;unfold opV at ak;simp only at ak;replace bb:=hid bb;replace bl:=hid bl;replace bc:=hid bc;replace a5:=hid a5;replace aw:=hid aw;replace bh:=hid bh;replace bk:=hid bk;replace hG2:=hid hG2;replace bj:=hid bj;replace an:=hid an;clear h hbad;have b1:=zc4 hk;have ai:=λW hW=>a5.out W hW
 simp only [Vh] at ai;clear a5;obtain⟨fd,bm⟩:∃f,zc3 k=f:=⟨_,rfl⟩;rw [bm] at ak b1 ai;replace ai:=hid ai;replace ak:=hid ak;replace bm:=hid bm
 by_cases h36:3<=k/\k<=6
 ·have bo:¬((k:Int)=1/\er≠0):=by omega
  rw [if_neg bo] at aa;have ad:=λW=>bc.out W
  simp only [show(!(decide (3<=(k:Int))&& decide ((k:Int)<=6)))=false by simp;omega] at ad;replace ad:=hid ad;replace aa:=hid aa;have tk:((k:Int)==1)=false:=by simp;omega
  clear hi bo hk h36
  go_enter func13,ntmps13
  go_wp2_with fail
  rw [← a8];clear a8;refine(bb.out).mono ?_;rintro e w2⟨rfl,ao⟩;obtain rfl:=ao.symm;go_wp2_with fail
  refine zd [O 0,O 1,O 2,O 3,O 4,O 5,O 6,O 7,O 8,O 9,O 10,O 11] none (λw'=>w'.cell? ⟨B,5,none⟩=some (.map (some K.dm))/\Blk w' w.heap.size #[.int .i64 (k:Nat),.int .i64 ac,.int .i64 A,.int .i64 af,.int .u32 (ag:Nat),.string (bs ae)] 37/\(Instr.lookup 63 (.map (some K.dm)) (.int .i64 (k:Nat)) true).run prog w'=.ok (.tuple #[.func (.func fd) #[] #[.pointer (some ⟨K.bx,0,none⟩)],.bool true]) w'/\True) ⟨c5,kO.drew,ai.out _ br,trivial⟩ ?_
  refine Wt ?_
  refine ze ?_;have cO:=kO.cell;go_wp2_with fail
  refine(ad.out _).mono ?_;rintro e w2⟨rfl,ao⟩;obtain rfl:=ao.symm;go_wp2_with fail
  refine ak.out.mono ?_;rintro e w3⟨rfl,a1,a2,ay⟩;have az:zt t ow w a1 w3:=zt.wrap a7 (by rw [← aw.out];exact(zt.drew _ _ _).trans a2);have au:=kO.drew.kept (a2.block kO.lt (by rw [a6];exact zj ht));have a9:a1 w.heap.size=[]:=(a2.agree _ kO.lt).trans a6;have ax:=zcZ B K _ hG2.out hk0 t ht a1 w3 ay;replace ay:=hid ay;replace ax:=hid ax;go_wp2_with fail
  refine ax.out.mono ?_;rintro e w4⟨rfl,a4,ar,ba,bp,ah⟩;have aj:=az.trans ar;have aq:=au.kept (ar.block au.lt (by rw [a9];exact zj ht));have bz:=aq.cell;have bq:a4 w.heap.size=[]:=(ar.agree _ au.lt).trans a9;clear cO;replace ah:=hid ah;go_wp2;go_ret
  exact⟨by rw [aa.out];rfl,a4,aj,by rw [aa.out];exact⟨_,_,ah.out⟩⟩
 have ad:=λW=>bc.out W
 simp only [show(!(decide (3<=(k:Int))&& decide ((k:Int)<=6)))=true by simp;omega] at ad;have am:=λW hW=>bl.out W hW
 have b0:=hi (by omega);simp only [show(decide (0<=ac)&& decide (ac<(S.nodes.length:Int)))=true by simp;omega] at am;replace ad:=hid ad;replace am:=hid am;replace aa:=hid aa;clear hi b0 h36
 go_enter func13,ntmps13
 go_wp2_with fail
 rw [← a8];clear a8;refine(bb.out).mono ?_;rintro e w2⟨rfl,ao⟩;obtain rfl:=ao.symm;go_wp2_with fail
 refine zd [O 0,O 1,O 2,O 3,O 4,O 5,O 6,O 7,O 8,O 9,O 10,O 11] none (λw'=>w'.cell? ⟨B,5,none⟩=some (.map (some K.dm))/\Blk w' w.heap.size #[.int .i64 (k:Nat),.int .i64 ac,.int .i64 A,.int .i64 af,.int .u32 (ag:Nat),.string (bs ae)] 37/\(Instr.lookup 63 (.map (some K.dm)) (.int .i64 (k:Nat)) true).run prog w'=.ok (.tuple #[.func (.func fd) #[] #[.pointer (some ⟨K.bx,0,none⟩)],.bool true]) w'/\True) ⟨c5,kO.drew,ai.out _ br,trivial⟩ ?_
 refine Wt ?_
 refine ze ?_;have cO:=kO.cell;go_wp2_with fail
 refine(ad.out _).mono ?_;rintro e w2⟨rfl,ao⟩;obtain rfl:=ao.symm;go_wp2_with fail
 refine(am.out _ ((zl.loc B K tv lp S t).below an.out (zq (N2 _ _)))).mono ?_;rintro e w2⟨rfl,ao⟩;obtain rfl:=ao.symm;go_wp2_with fail
 refine ak.out.mono ?_;rintro e w3⟨rfl,a1,a2,ay⟩;have az:zt t ow w a1 w3:=zt.wrap a7 (by rw [← aw.out];exact(zt.drew _ _ _).trans a2);have au:=kO.drew.kept (a2.block kO.lt (by rw [a6];exact zj ht));have a9:a1 w.heap.size=[]:=(a2.agree _ kO.lt).trans a6;have ax:=zcZ B K _ hG2.out hk0 t ht a1 w3 ay;replace ay:=hid ay;replace ax:=hid ax;go_wp2_with fail
 refine ax.out.mono ?_;rintro e w4⟨rfl,a4,ar,ba,bp,ah⟩;have aj:=az.trans ar;have aq:=au.kept (ar.block au.lt (by rw [a9];exact zj ht));have bz:=aq.cell;have bq:a4 w.heap.size=[]:=(ar.agree _ au.lt).trans a9;clear cO;have al:=aa.out
 by_cases h1:k=1
 ·have tk:((k:Int)==1)=true:=by simp;omega
  by_cases h0:er=0
  ·have te:(er !=0)=false:=by simpa using h0
   rw [if_neg (by simp [h0])] at al;clear aa h0 h1 hk;have aa:=hid al;clear al;replace ah:=hid ah;go_wp2;go_ret
   exact⟨by rw [aa.out];rfl,a4,aj,by rw [aa.out];exact⟨_,_,ah.out⟩⟩
  have te:(er !=0)=true:=by simpa using h0
  rw [if_pos ⟨by omega,h0⟩] at al;clear aa h0 h1 hk;have aa:=hid al;clear al;have ap:=(zl.loc B K ba bp _ t).below ah (zq (N2 _ _));obtain⟨sa,sc,W7,a0,b2,b4,b5,bf,bt,bg,bi⟩:=zev ap (i:=ac) (by have:=bj.out.traceLe;omega);have c6:w4.drew.cell? ⟨B,6,none⟩=some ba:=ap.blk.cell 6;replace ah:=hid ah;replace ap:=hid ap;replace a0:=hid a0;have bw:Blk W7 w.heap.size #[.int .i64 (k:Nat),.int .i64 ac,.int .i64 A,.int .i64 af,.int .u32 (ag:Nat),.string (bs ae)] 37:=aq.kept (bf _ aq.lt bq);replace bf:=hid bf;replace bi:=hid bi;replace bg:=hid bg;go_wp2_with fail
  refine zd [O 0,O 1,O 2,O 3,O 4,O 5,O 6,E 7,E 8,E 9,O 10,O 11,E 12] (some 12) (λw'=>w'.cell? ⟨B,6,none⟩=some ba/\Blk w' w.heap.size #[.int .i64 (k:Nat),.int .i64 ac,.int .i64 A,.int .i64 af,.int .u32 (ag:Nat),.string (bs ae)] 37/\True) ⟨c6,aq.drew,trivial⟩ ?_
  refine We ?_
  refine zc rfl (λJ hJ=>?_);go_wp2;refine hJ.out _ _ (λ_=>⟨c6,aq.drew,trivial⟩) ?_;clear hJ J;refine zc rfl (λJ hJ=>?_);go_wp2;refine hJ.out _ _ (λ_=>⟨jI (w:=w4) c6 _,(aq.alloc _).drew,trivial⟩) ?_;clear hJ J;refine zc rfl (λJ hJ=>?_);refine zw rfl _ _ _ rfl rfl rfl a0.out ?_;unfold wpList;refine hJ.out _ _ (λ_=>⟨b2,bw,trivial⟩) ?_;clear hJ J
  refine We ?_
  refine zc rfl (λJ hJ=>?_);go_wp2;refine hJ.out _ _ (λhh=>absurd rfl hh) ?_;clear hJ J;refine ze ?_;go_wp2;go_ret
  exact⟨by rw [aa.out];rfl,bt,(aj.trans (zt.drew _ _ _)).trans bg.out,by rw [aa.out];exact bi.out⟩
 have tk:((k:Int)==1)=false:=by simp;omega
 rw [if_neg (by omega)] at al;clear aa h1 hk;have aa:=hid al;clear al;replace ah:=hid ah;go_wp2;go_ret
 exact⟨by rw [aa.out];rfl,a4,aj,by rw [aa.out];exact⟨_,_,ah.out⟩⟩
theorem zmo(hG:zu v k0 L S)(hk0:k0<=100000000)(hL:L<=3000000000)(hv:known v=true)(ht:t≠ [])(o:OpD)(ho:zmm o)(hk:zcF o.kind)(hi:o.kind≠3->0<=o.node/\o.node<S.nodes.length)(h:zI B K S t ow w)(he:jK w a)(hge:ow 2=[]):
 Calls prog 13 #[.pointer (some ⟨B,0,none⟩),opV o] w (xK B K (doW (zk v) S o).1 t ow w (.int .i64 (doW (zk v) S o).2)):=by
 have ac:=hk;unfold zcF at ac;have aa:¬(3<=o.kind/\o.kind<=6)->0<=o.node/\o.node<S.nodes.length:=λhn=>hi (by omega)
 exact zfu hk0 ht o (hG.deedA hL o ho.len hk (λh3=>by have:=hi h3;omega)) (λow w h he hge=>zje hG hL hv ht o ho _ (by omega) (by omega) aa h he hge) o.kind.toNat (by omega) (by omega) aa h he hge
theorem zmQ(hG:zu v k0 L S)(hk0:k0<=100000000)(ht:t≠ [])(o:OpD)(hk:o.kind=7∨o.kind=8)(hi:0<=o.node/\o.node<S.nodes.length)(h:zI B K S t ow w)(he:jK w a)(hge:ow 2=[]):
 Calls prog 13 #[.pointer (some ⟨B,0,none⟩),opV o] w (xK B K (doW (zk v) S o).1 t ow w (.int .i64 (doW (zk v) S o).2)):=
 zfu (L:=L) hk0 ht o (hG.deedB o hk (by omega)) (λ_ _ h _ _=>zjf hG o _ (by omega) (by omega) (λ_=>hi) h) o.kind.toNat (by omega) (by omega) (λ_=>hi) h he hge
end
open Go Go.RowKit
variable {P:Program}{ops:Array Oper}{Q:Exit->Act->World->Prop}
theorem zbn {m:Nat}{listed:Array Bool}(R:List Nat)(fr:(Nat->Value)->Act)(g0:Nat->Value)(vf:Nat->Nat->Value)(obj:Nat->Obj)(W0:World)(hok:zeg ops listed R=true)
 (hrun:∀i∈R,∀g W,wpOp P ops (λ_ _ _=>False) i (λa' w'=>a'=fr (λj=>if j=i then vf i W.heap.size else g j)/\w'=W.alloc (obj i)) (fr g) W)
 (hend:∀(h:Nat->Nat) W,(∀i∈R,W.heap[h i]?=some (obj i)/\W0.heap.size<=h i)->(∀i∈R,∀j∈R,i≠j->h i≠h j)->Below W0.heap.size W0 W->yG P ops (jk Q) zcv none m (zgN listed R []) (fr λi=>vf i (h i)) W):
 ∀(n:Nat)(rest:List Nat)(W:World)(h:Nat->Nat),rest.length=n->rest∈za4 R->(∀i∈R,i∉rest->W.heap[h i]?=some (obj i)/\W0.heap.size<=h i)->(∀i∈R,i∉rest->∀j∈R,j∉rest->i≠j->h i≠h j)->Below W0.heap.size W0 W->yG P ops (jk Q) zcv none (n+m) (zgN listed R rest) (fr λi=>if i∈rest then g0 i else vf i (h i)) W:=by
 intro n
 induction n with
 |zero=>
  intro rest W h hl hs hR hd hb;obtain rfl:=N9 hl;rw [Nat.zero_add];simp only [List.not_mem_nil,if_false];exact hend h W (λi hi=>hR i hi (by simp)) (λi hi j hj=>hd i hi (by simp) j hj (by simp)) hb
 |succ n ih=>
  intro rest W g hl hs hR hd hb;have h1:=hok;unfold zeg at h1;rw [List.all_eq_true] at h1;have h2:=h1 rest hs;rw [Bool.or_eq_true] at h2
  rcases h2 with h2|h2
  ·have:rest=[]:=by simpa using h2
   subst this;simp at hl
  simp only [Bool.and_eq_true,decide_eq_true_eq,List.all_eq_true] at h2
  obtain⟨h3,h4⟩:=h2;rw [show n+1+m=(n+m)+1 by omega];refine⟨λh0=>(by rw [h3] at h0;subst h0;simp at hl),λi hi=>?_⟩;rw [h3] at hi;obtain⟨⟨⟨h5,h6⟩,h7⟩,h8⟩:=h4 i hi;have ad:i∈R:=by simpa using h5
  refine xq (wpOp_mono (λa' w' h=>?_) (hrun i ad _ W));obtain⟨rfl,rfl⟩:=h;refine⟨λ_=>trivial,?_⟩;rw [h6];have aa:∀j∈R,j∉rest.filter (· !=i)->j≠i->j∉rest:=λj hj hjn hji h=>hjn (by simp [h,hji])
  have ae:(λj=>if j=i then vf i W.heap.size else if j∈rest then g0 j else vf j (g j))=λj=>if j∈rest.filter (· !=i)then g0 j else vf j (if j=i then W.heap.size else g j):=by
   funext j
   by_cases hji:j=i
   ·subst hji;simp
   by_cases hjr:j∈rest<;>simp [hji,hjr]
  rw [ae];refine ih _ _ _ (by omega) (by simpa using h7) (λj hj hjn=>?_) (λj hj hjn j' hj' hjn' hne=>?_) (hb.alloc hb.size _)
  ·by_cases hji:j=i
   ·subst hji
    simp only [if_true];exact⟨World.alloc_heap_new W _,hb.size⟩
   simp only [if_neg hji]
   have h:=hR j hj (aa j hj hjn hji);exact⟨(U4 W _ _ (N5.1 h.1).1).trans h.1,h.2⟩
  have ac:∀x∈R,x∉rest->g x<W.heap.size:=λx hx hxr=>(N5.1 (hR x hx hxr).1).1
  by_cases hji:j=i
  ·subst hji
   simp only [if_true,if_neg (Ne.symm hne)];have:=ac j' hj' (aa j' hj' hjn' (Ne.symm hne));omega
  by_cases hji':j'=i
  ·subst hji'
   simp only [if_true,if_neg hji];have:=ac j hj (aa j hj hjn hji);omega
  simp only [if_neg hji,if_neg hji']
  exact hd j hj (aa j hj hjn hji) j' hj' (aa j' hj' hjn' hji') hne
theorem zjg {m:Nat}{listed:Array Bool}{w:World}(R:List Nat)(fr:(Nat->Value)->Act)(g0:Nat->Value)(vf:Nat->Nat->Value)(obj:Nat->Obj)(hok:(zeg ops listed R && decide (R∈za4 R)&& decide (zgN listed R R=listed))=true)(hfr:∀g g',(∀i∈R,g i=g' i)->fr g=fr g')
 (hrun:∀i∈R,∀g W,wpOp P ops (λ_ _ _=>False) i (λa' w'=>a'=fr (λj=>if j=i then vf i W.heap.size else g j)/\w'=W.alloc (obj i)) (fr g) W)
 (hend:∀(h:Nat->Nat) W,(∀i∈R,W.heap[h i]?=some (obj i)/\w.heap.size<=h i)->(∀i∈R,∀j∈R,i≠j->h i≠h j)->Below w.heap.size w W->yG P ops (jk Q) zcv none m (zgN listed R []) (fr λi=>vf i (h i)) W):yG P ops (jk Q) zcv none (R.length+m) listed (fr g0) w:=by
 simp only [Bool.and_eq_true,decide_eq_true_eq] at hok;obtain⟨⟨h1,h2⟩,h3⟩:=hok;have:=zbn R fr g0 vf obj w h1 hrun hend R.length R w (λ_=>0) rfl h2 (λi hi hn=>absurd hi hn) (λi hi hn=>absurd hi hn) (N2 _ _);rw [h3,hfr (λi=>if i∈R then g0 i else vf i 0) g0 (λi hi=>by simp [hi])] at this;exact this
def frp(a:Act)(d:Nat->Nat)(R:List Nat)(g:Nat->Value):Act:={a with tmps:=R.foldl (λt i=>t.setIfInBounds (d i) (g i)) a.tmps}
theorem zjh(a:Act)(d:Nat->Nat)(R:List Nat)(g g':Nat->Value)(h:∀i∈R,g i=g' i):frp a d R g=frp a d R g':=by
 unfold frp
 congr 1
 generalize a.tmps=t
 induction R generalizing t with
 |nil=>rfl
 |cons i R ih=>rw [List.foldl_cons,List.foldl_cons,h i (by simp)];exact ih (λj hj=>h j (by simp [hj])) _
theorem zhh {m:Nat}{listed:Array Bool}{a:Act}{w:World}(R:List Nat)(d:Nat->Nat)(g0:Nat->Value)(vf:Nat->Nat->Value)(obj:Nat->Obj)(hok:(zeg ops listed R && decide (R∈za4 R)&& decide (zgN listed R R=listed))=true)(h0:frp a d R g0=a)
 (hrun:∀i∈R,∀g W,wpOp P ops (λ_ _ _=>False) i (λa' w'=>a'=frp a d R (λj=>if j=i then vf i W.heap.size else g j)/\w'=W.alloc (obj i)) (frp a d R g) W)
 (hend:∀(h:Nat->Nat) W,(∀i∈R,W.heap[h i]?=some (obj i)/\w.heap.size<=h i)->(∀i∈R,∀j∈R,i≠j->h i≠h j)->Below w.heap.size w W->yG P ops (jk Q) zcv none m (zgN listed R []) (frp a d R λi=>vf i (h i)) W):yG P ops (jk Q) zcv none (R.length+m) listed a w:=by
 have:=zjg R (frp a d R) g0 vf obj hok (zjh a d R) hrun hend
 rwa [h0] at this
