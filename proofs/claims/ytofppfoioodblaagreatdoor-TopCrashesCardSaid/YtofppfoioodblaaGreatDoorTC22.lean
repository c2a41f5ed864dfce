/- PARTS OF THE PROOF. -/
import Derived.Test.YtofppfoioodblaaGreatDoorTC21
set_option maxRecDepth 8000
set_option maxHeartbeats 4000000
open Go.Proofs.Tryz
namespace Go.Proofs.YtofppfoioodblaaGreatDoor
open Go Go.RowKit Go.Shelf Go.Extern.Stop Go.Stop Go.Extern
attribute [local go_sem] Oper.semAt_some zB zp
theorem zgE {L:zP}{k:Nat}(h:xm L k)(e:jH)(f:Bool):(yk L e f).2.1.length<=128*(k+1):=by
 have h1:=h.len;have h2:=zbX h.fold e;unfold yk
 split
 ·simp
 refine Nat.le_trans (zbW _) ?_
 unfold qL;simp only [(qk L _ f).1,N1];omega
def qn(B:Nat)(t:List Nat)(ow:Own)(w:World)(R:zr×List zA)(e:Ending)(w':World):Prop:=
 ∃v ow',e=.returned v/\zt t ow w ow' w'/\jF B R.1 t ow' w'/\Row w' 78 3 v R.2.length (R.2.flatMap zg)/\(∀g,v.ownBlock=some g->w.heap.size<=g/\ow' g=[])
theorem zgF {px sb lb pb:Nat}{av:Value}(a:Addr)(B:Nat)(n:zr)(t:List Nat)(ht:t≠ [])(ow:Own)(e:jH)(mv:Value)(w:World)(hN:zy B px sb lb pb av n t ow w)(he:jK w a)(hge:ow 2=[])
 (hm:qJ w mv e.msgs) (hmt:∀a l c,mv=.slice (some a) l c->ow a.block=[]) (hm2:e.msgs.length<=1073741824) {k:Nat} (hb:xm n.loc k) (hk:k<=10000) (hacc:n.acc.length<=200000):
 Calls prog 162 #[.pointer (some ⟨B,0,none⟩),ZG e mv] w (qn B t ow w (v7 n e)):=by
 have hf:=hb.fold;have c8:=hb.len;have cq:=hf.eras;have am:=zaK hb e false;have b1:=zgE hb e false;have c6:=zbX hf e;have c4:=(zdE hf e).eras;have cg:e.ver=e.ver:=rfl;have cl:=he.lt;have br:Below w.heap.size w (w.alloc (.cells #[.int .i64 e.kind,.int .u32 e.epoch,.int .i64 e.ver,mv] 241)):=pbx;have bq:=(zy.loc B px sb lb pb av n t).cut hN br;have kA:Blk (w.alloc (.cells #[.int .i64 e.kind,.int .u32 e.epoch,.int .i64 e.ver,mv] 241)) w.heap.size #[.int .i64 e.kind,.int .u32 e.epoch,.int .i64 e.ver,mv] 241:=Blk.new (by simp);have b0:qJ (w.alloc (.cells #[.int .i64 e.kind,.int .u32 e.epoch,.int .i64 e.ver,mv] 241)) mv e.msgs:=Src.below hm br
 have bf:∀a l c,mv=.slice (some a) l c->(ow.cut w) a.block=[]:=λa l c hv=>by
  rcases Nat.lt_or_ge a.block w.heap.size with h|h
  ·rw [Own.cut_old h];exact hmt a l c hv
  exact Own.cut_new h
 have bz:jK (w.alloc (.cells #[.int .i64 e.kind,.int .u32 e.epoch,.int .i64 e.ver,mv] 241)) a:=he.below br cl;have cy:(ow.cut w) 2=[]:=by rw [Own.cut_old cl];exact hge
 have a6:=λ(ow2:Own)(w2:World)(h:zt t (ow.cut w) (w.alloc (.cells #[.int .i64 e.kind,.int .u32 e.epoch,.int .i64 e.ver,mv] 241)) ow2 w2)=>zt.wrap br h
 have bl:(ow.cut w) w.heap.size=[]:=Own.cut_new (N0 _);have bc:∃W0,W0=w.alloc (.cells #[.int .i64 e.kind,.int .u32 e.epoch,.int .i64 e.ver,mv] 241):=⟨_,rfl⟩;obtain⟨W0,bc⟩:=bc
 have ap:∀v ow2 w2 m ms,zt t (ow.cut w) W0 ow2 w2->jF B m t ow2 w2->Row w2 78 3 v ms.length (ms.flatMap zg)->(∀g,v.ownBlock=some g->w.heap.size<=g/\ow2 g=[])->qn B t ow w (m,ms) (.returned v) w2:=
  λv ow2 w2 m ms h1 h2 h3 h4=>⟨v,ow2,rfl,a6 ow2 w2 (by rw [bc] at h1;exact h1),h2,h3,h4⟩
 have da:w.heap.size<W0.heap.size:=by rw [bc];simp
 rw [← bc] at bq kA b0 bz;have a5:v7 n e=(jE (n.acc.length+1) {n with loc:=(yk n.loc e (n.bad.contains (qi n e))).1,wanted:=if vC (yk n.loc e (n.bad.contains (qi n e))).1.fold.eras=vC n.loc.fold.eras then n.wanted else 0,pool:=JH (JH n.pool (yk n.loc e (n.bad.contains (qi n e))).2.1) (yk n.loc e (n.bad.contains (qi n e))).1.held},(yk n.loc e (n.bad.contains (qi n e))).2.1):=rfl;have co:n.bad.contains (qi n e)=false:=by rw [hN.bad];rfl
 rw [co] at a5;clear co;have a8:=λW h1 h2 h3=>zgC a lb n.loc (t++ [2]) (by simp) (ow.cut w) e mv false W h1 cy h2 h3 (λa l c hv=>by rw [bf a l c hv];exact zj (by simp)) (by have:=hf.few;omega) (by omega) hm2 ⟨hf.low,by have:=hf.high;omega⟩ (by omega) (by omega)
 have ax:=λow' W h=>VT lb n.loc (t++ [2]) ow' W h (by omega)
 have bp:=λW h=>ziH (px:=px) (sb:=sb) (lb:=lb) (pb:=pb) (av:=av) B n t (ow.cut w) e mv W h (by omega)
 obtain⟨⟨L',ms,er⟩,hR⟩:∃R,yk n.loc e false=R:=⟨_,rfl⟩;rw [hR] at a8 a5 am b1;unfold zai at a8;simp only at a8 a5 am b1;have ai:=λow' W h=>VT lb L' (t++ [2]) ow' W h (by have:=am.fold.eras;omega)
 have aq:=λow' W h=>zfT lb L' (t++ [2]) ow' W h (by have:=am.len;omega)
 have c7:L'.held.length<=1073741824:=by have:=am.len;omega
 obtain⟨⟨p1,p2,p3⟩,hP⟩:∃x,vC n.loc.fold.eras=x:=⟨_,rfl⟩;obtain⟨⟨q1,q2,q3⟩,hQ⟩:∃x,vC L'.fold.eras=x:=⟨_,rfl⟩;rw [hP] at ax a5;rw [hQ] at ai a5;have aw:=λW=>zll (q1,q2,q3) (p1,p2,p3) W
 unfold Yg at ax ai;unfold ZG at a8 bp⊢;unfold Yg at aw;simp only at ax ai aw;have ar:=λ(M:zr)(ow':Own) W v (hpl:j5 pb n.pool (t++ [3]) ow' W) (h2:Src W v 3 ms.length (ms.flatMap zg)) h3=>zaa pb n.pool (t++ [3]) ow' v ms W hpl h2 (by omega) h3
 have ak:=λ(ow':Own) W v h1 h2 h3=>zaa pb (JH n.pool ms) (t++ [3]) ow' v L'.held W h1 h2 (by omega) h3
 rw [a5];have bg:Below W0.heap.size W0 W0:=N2 _ _;replace a5:=hid a5;replace a8:=hid a8;replace ax:=hid ax;replace ai:=hid ai;replace aq:=hid aq;replace bp:=hid bp;replace hR:=hid hR;replace hP:=hid hP;replace hQ:=hid hQ;replace ar:=hid ar;replace ak:=hid ak;replace ap:=hid ap;replace bf:=hid bf;clear a6 am b1 cg bg;have a1:=hN.blk;unfold zz at a1;have cw:=a1.cell;have lw:=a1.lt;have hB:=bq.blk;unfold zz at hB;clear hN a1
 go_enter func162,ntmps162
 go_wp2_with fail
 rw [← bc];clear bc cw lw;refine(ax.out _ _ bq.lo).mono ?_;rintro r w1⟨rfl,c1⟩;have cn:Below W0.heap.size W0 (w1.alloc (.cells #[.int .u32 p1,.int .i64 p2,.int .i64 p3] 197)):=pbx;have kE:Blk (w1.alloc (.cells #[.int .u32 p1,.int .i64 p2,.int .i64 p3] 197)) w1.heap.size #[.int .u32 p1,.int .i64 p2,.int .i64 p3] 197:=Blk.new (by simp);have c5:=c1.size;obtain⟨W1,bt⟩:∃W1,W1=w1.alloc (.cells #[.int .u32 p1,.int .i64 p2,.int .i64 p3] 197):=⟨_,rfl⟩;have c9:w1.heap.size<W1.heap.size:=by rw [bt];simp
 have bn:(ow.cut w) w1.heap.size=[]:=Own.cut_new (by omega);go_wp2_with fail
 rw [← bt] at cn kE⊢;clear bt;have a2:Below W0.heap.size W0 W1.drew:=zq cn;have cd:=(zy.loc B px sb lb pb av n t).below bq a2;have ca:=kA.call a2;have ci:Blk W1.drew w1.heap.size #[.int .u32 p1,.int .i64 p2,.int .i64 p3] 197:=kE.drew;have ce:=bz.below a2 (by omega);have b9:=Src.below b0 a2;have b5:Blk W1.drew B #[.pointer (some ⟨px,0,none⟩),.int .i64 n.id,.int .i64 n.version,.slice none 0 0,.pointer (some ⟨sb,0,none⟩),.pointer (some ⟨lb,0,none⟩),.pointer (some ⟨pb,0,none⟩),av,.int .i64 (n.offered:Nat),.int .i64 (n.applied:Nat),.int .i64 n.wanted,.bool n.down] 98:=cd.blk;clear kA kE bz b0 hB;refine zd [O 0,O 1,O 2,O 3,O 4,O 5,O 6,O 7,O 8,O 9,O 10,E 11,E 12,E 13,O 14,O 15,O 16,O 17,O 18] none (λw'=>Blk w' B #[.pointer (some ⟨px,0,none⟩),.int .i64 n.id,.int .i64 n.version,.slice none 0 0,.pointer (some ⟨sb,0,none⟩),.pointer (some ⟨lb,0,none⟩),.pointer (some ⟨pb,0,none⟩),av,.int .i64 (n.offered:Nat),.int .i64 (n.applied:Nat),.int .i64 n.wanted,.bool n.down] 98/\Blk w' w.heap.size #[.int .i64 e.kind,.int .u32 e.epoch,.int .i64 e.ver,mv] 241/\True) ⟨b5,ca,trivial⟩ ?_
 refine Wd ?_
 refine zc rfl (λK hK=>?_);go_wp2_with fail
 refine(bp.out _ cd).mono ?_;rintro r w2⟨rfl,am⟩;have cj:=b5.call am;have bk:=ca.call am;go_wp2;refine hK.out _ _ (λ_=>⟨cj,bk,trivial⟩) ?_;clear hK K;refine zc rfl (λK hK=>?_);go_wp2_with fail
 refine(Tryz.slices_Contains_int_empty none 0 _ _).mono ?_;rintro r w3⟨rfl,c2⟩;obtain rfl:=c2.symm;go_wp2;refine hK.out _ _ (λ_=>⟨cj,bk,trivial⟩) ?_;clear hK K;have b7:=(zy.loc B px sb lb pb av n t).below cd am;refine zc rfl (λK hK=>?_);go_wp2_with fail
 refine(a8.out _ (ce.below am (by have:=a2.size;omega)) b7.lo (Src.below b9 am)).mono ?_;rintro r w4⟨v,cr,rfl,bj,c3,a3,aa⟩;have bu:=b7.setLocal L' bj c3;have bo:=b7.blkS bj;unfold zz at bo;have cs:w.heap.size<w2.heap.size:=bk.lt;have cp:=bk.kept (bj.block cs (by rw [bl];exact zj (by simp)));have b3:=(ci.call am).kept (bj.block (ci.call am).lt (by rw [bn];exact zj (by simp)));have bh:zt t (ow.cut w) W0 cr w4:=(zt.of_below t _ (a2.trans (am.mono a2.size))).trans (bj.mono (Sub.child t 2));go_wp2;refine hK.out _ _ (λ_=>⟨bo,cp,trivial⟩) ?_;clear hK K
 refine Wd ?_
 refine ze ?_;clear b5 cj ca bk cp;go_wp2_with fail
 refine zd [O 0,O 1,O 2,O 3,O 5,E 4,O 6] none (λw'=>Blk w' B #[.pointer (some ⟨px,0,none⟩),.int .i64 n.id,.int .i64 n.version,.slice none 0 0,.pointer (some ⟨sb,0,none⟩),.pointer (some ⟨lb,0,none⟩),.pointer (some ⟨pb,0,none⟩),av,.int .i64 (n.offered:Nat),.int .i64 (n.applied:Nat),.int .i64 n.wanted,.bool n.down] 98/\Blk w' w1.heap.size #[.int .u32 p1,.int .i64 p2,.int .i64 p3] 197/\True) ⟨bo.drew,b3.drew,trivial⟩ ?_
 refine Wd ?_
 refine zc rfl (λK hK=>?_);go_wp2_with fail
 refine(ai.out _ _ ((zK.loc lb L' (t++ [2])).below bu.lo (zq (N2 _ _)))).mono ?_;rintro r w5⟨rfl,cz⟩;have ao:Below w4.heap.size w4 w5:=zh (zq (N2 _ _)) cz;have ay:=bo.call ao;have ck:=b3.call ao;go_wp2;refine hK.out _ _ (λ_=>⟨ay,ck,trivial⟩) ?_;clear hK K bo b3 ck ci
 by_cases hq:(q1,q2,q3)=(p1,p2,p3)
 ·have hd:=λW=>(aw W).trans (by rw [show decide ((q1,q2,q3)≠(p1,p2,p3))=false by simp [hq]])
  clear aw
  refine Wd ?_
  refine ze ?_;have a4:=(zy.loc B px sb lb pb av _ t).below bu ao;have bb:zt t (ow.cut w) W0 cr w5:=bh.trans (zt.of_below t _ ao);have ad:=a3.below ao;replace hq:=hid hq;have b8:=ay.cell;have b4:=ay.lt;go_wp2_with fail
  refine(ar.out n _ _ v a4.pool ad.src (λa l c hv=>by subst hv;rw [(aa _ rfl).2];exact zj (by simp))).mono ?_;rintro r w6⟨vd,rfl,a0,cc⟩;have bm:=a4.setPool _ a0 cc;have a9:=a4.blkS a0;unfold zz at a9;have ac:=ad.step a0 (λg hg=>by rw [(aa g hg).2];exact zj (by simp));clear b8 b4;go_wp2_with fail
  refine zd [O 0,O 1,O 2,O 3,O 4,O 5,O 6,O 7,E 8,E 9] none (λw'=>Blk w' B #[.pointer (some ⟨px,0,none⟩),.int .i64 n.id,.int .i64 n.version,.slice none 0 0,.pointer (some ⟨sb,0,none⟩),.pointer (some ⟨lb,0,none⟩),.pointer (some ⟨pb,0,none⟩),av,.int .i64 (n.offered:Nat),.int .i64 (n.applied:Nat),.int .i64 n.wanted,.bool n.down] 98/\True) ⟨a9.drew,trivial⟩ ?_
  refine Wu ?_
  refine zc rfl (λK hK=>?_);go_wp2_with fail
  refine(aq.out _ _ ((zK.loc lb L' (t++ [2])).below bm.lo (zq (N2 _ _)))).mono ?_;rintro r w7⟨vh,rfl,an,bw,af⟩;have al:Below w6.heap.size w6 w7:=zh (zq (N2 _ _)) bw;have cf:=a9.call al;go_wp2;refine hK.out _ _ (λ_=>⟨cf,trivial⟩) ?_;clear hK K;refine zc rfl (λK hK=>?_);have ba:=(zy.loc B px sb lb pb av _ t).cut bm al;go_wp2_with fail
  refine(ak.out _ _ vh ba.pool an.src (λa l c hv=>by subst hv;rw [Own.cut_new (w:=w6) (af _ rfl)];exact zj (by simp))).mono ?_;rintro r w8⟨c0,rfl,az,cb⟩;have ch:=ba.setPool _ az cb;have bi:=ba.blkS az;unfold zz at bi;have ag:=(ac.below al).step az (λg hg=>by rw [Own.cut_old (ac.lt hg),(aa g hg).2];exact zj (by simp));have bd:zt t (ow.cut w) W0 _ w8:=bb.trans ((a0.mono (Sub.child t 3)).trans (zt.wrap al (az.mono (Sub.child t 3))));go_wp2;refine hK.out _ _ (λ_=>⟨bi,trivial⟩) ?_;clear hK K;refine ze ?_;go_wp2_with fail
  refine(Jc B _ t _ _ ⟨_,_,_,_,_,ch⟩ (by show n.acc.length<=_;omega)).mono ?_;rintro r w9⟨rfl,b6,be,b2⟩;have ae:=ag.step be (λg hg=>by rw [Own.cut_old (ac.lt hg),(aa g hg).2];exact zj ht);have ah:∀g,v.ownBlock=some g->w.heap.size<=g/\b6 g=[]:=λg hg=>⟨by have:=(aa g hg).1;have:=am.size;have:=a2.size;omega,by rw [be.agree g (ag.lt hg),Own.cut_old (ac.lt hg)];exact(aa g hg).2⟩
  replace ae:=hid ae;replace ah:=hid ah;replace aa:=hid aa;replace af:=hid af;clear ag an ac ad;go_wp2;go_ret
  first|rw [if_pos hq.out] |rw [if_neg hq.out] |skip
  exact ap.out _ _ _ _ _ (bd.trans be) b2 ae.out ah.out
 have hd:=λW=>(aw W).trans (by rw [show decide ((q1,q2,q3)≠(p1,p2,p3))=true from decide_eq_true hq])
 clear aw
 refine Wu ?_
 refine ze ?_;have bv:=(zy.loc B px sb lb pb av _ t).below bu ao;have cv:=ay.cell;have ct:=ay.lt;have cx:=ay.frozen;have cu:Mod (λk=>k=B) w5 (w5.setCell ⟨B,10,none⟩ (.int .i64 0)):=(Mod.refl (λk=>k=B) w5).thenSet (p:=⟨B,10,none⟩) rfl _;have au:=bv.setOwn {n with loc:=L',wanted:=0} cu (ay.set (o:=10) (.int .i64 0)) rfl rfl rfl rfl rfl rfl;have aj:=(a3.below ao).step au.1 (λg hg=>by rw [(aa g hg).2];exact zj ht);have a7:=(bh.trans (zt.of_below t _ ao)).trans au.1;replace au:=hid au;replace aj:=hid aj;replace hq:=hid hq;go_wp2_with fail
 obtain⟨W5,cm⟩:∃W5,W5=w5.setCell ⟨B,10,none⟩ (.int .i64 0):=⟨_,rfl⟩;rw [← cm] at au a7 aj⊢;clear cm ay cv ct cx;have bb:=a7;have ad:=aj.out;have a4:=au.out.2;have ay:=a4.blk;unfold zz at ay;have b8:=ay.cell;have b4:=ay.lt;go_wp2_with fail
 refine(ar.out n _ _ v a4.pool ad.src (λa l c hv=>by subst hv;rw [(aa _ rfl).2];exact zj (by simp))).mono ?_;rintro r w6⟨vd,rfl,a0,cc⟩;have bm:=a4.setPool _ a0 cc;have a9:=a4.blkS a0;unfold zz at a9;have ac:=ad.step a0 (λg hg=>by rw [(aa g hg).2];exact zj (by simp));clear b8 b4;go_wp2_with fail
 refine zd [O 0,O 1,O 2,O 3,O 4,O 5,O 6,O 7,E 8,E 9] none (λw'=>Blk w' B #[.pointer (some ⟨px,0,none⟩),.int .i64 n.id,.int .i64 n.version,.slice none 0 0,.pointer (some ⟨sb,0,none⟩),.pointer (some ⟨lb,0,none⟩),.pointer (some ⟨pb,0,none⟩),av,.int .i64 (n.offered:Nat),.int .i64 (n.applied:Nat),.int .i64 (0:Int),.bool n.down] 98/\True) ⟨a9.drew,trivial⟩ ?_
 refine Wu ?_
 refine zc rfl (λK hK=>?_);go_wp2_with fail
 refine(aq.out _ _ ((zK.loc lb L' (t++ [2])).below bm.lo (zq (N2 _ _)))).mono ?_;rintro r w7⟨vh,rfl,an,bw,af⟩;have al:Below w6.heap.size w6 w7:=zh (zq (N2 _ _)) bw;have cf:=a9.call al;go_wp2;refine hK.out _ _ (λ_=>⟨cf,trivial⟩) ?_;clear hK K;refine zc rfl (λK hK=>?_);have ba:=(zy.loc B px sb lb pb av _ t).cut bm al;go_wp2_with fail
 refine(ak.out _ _ vh ba.pool an.src (λa l c hv=>by subst hv;rw [Own.cut_new (w:=w6) (af _ rfl)];exact zj (by simp))).mono ?_;rintro r w8⟨c0,rfl,az,cb⟩;have ch:=ba.setPool _ az cb;have bi:=ba.blkS az;unfold zz at bi;have ag:=(ac.below al).step az (λg hg=>by rw [Own.cut_old (ac.lt hg),(aa g hg).2];exact zj (by simp));have bd:zt t (ow.cut w) W0 _ w8:=bb.trans ((a0.mono (Sub.child t 3)).trans (zt.wrap al (az.mono (Sub.child t 3))));go_wp2;refine hK.out _ _ (λ_=>⟨bi,trivial⟩) ?_;clear hK K;refine ze ?_;go_wp2_with fail
 refine(Jc B _ t _ _ ⟨_,_,_,_,_,ch⟩ (by show n.acc.length<=_;omega)).mono ?_;rintro r w9⟨rfl,b6,be,b2⟩;have ae:=ag.step be (λg hg=>by rw [Own.cut_old (ac.lt hg),(aa g hg).2];exact zj ht);have ah:∀g,v.ownBlock=some g->w.heap.size<=g/\b6 g=[]:=λg hg=>⟨by have:=(aa g hg).1;have:=am.size;have:=a2.size;omega,by rw [be.agree g (ag.lt hg),Own.cut_old (ac.lt hg)];exact(aa g hg).2⟩
 replace ae:=hid ae;replace ah:=hid ah;replace aa:=hid aa;replace af:=hid af;clear ag an ac ad;go_wp2;go_ret
 first|rw [if_pos hq.out] |rw [if_neg hq.out] |skip
 exact ap.out _ _ _ _ _ (bd.trans be) b2 ae.out ah.out
structure vz(B:Nat)(t:List Nat)(ow:Own)(w W0:World)(m:zr)(ow':Own)(X:Nat->Prop)(W:World):Prop where
 node:jF B m t ow' W
 st:zt t ow w ow' W
 sz:W0.heap.size<=W.heap.size
 free:∀k,w.heap.size<=k->k<W0.heap.size->ow' k=[]
 xs:∀k,X k->W0.heap.size<=k/\k<W.heap.size/\ow' k=[]
theorem vz.stab {B:Nat}{t:List Nat}(ht:t≠ []){ow:Own}{w W0:World}(hw:w.heap.size<=W0.heap.size){m:zr}{ow':Own}{X X':Nat->Prop}{W W':World}(h:vz B t ow w W0 m ow' X W)(hm:Mod X W W')(hx:∀k,X' k->X k∨(W.heap.size<=k/\k<W'.heap.size)):
 vz B t ow w W0 m (ow'.cut W) X' W' where
 node:=jF.loc B m t _ _ _ _ h.node hm.size (λk hk hs=>⟨Own.cut_old hk,hm.block k hk (λhX=>by rw [(h.xs k hX).2.2] at hs;exact zj ht hs)⟩)
 st:=⟨h.st.mod.trans hm (λ_ _ e=>e) (λk hk e=>by have:=(h.xs k e).1;omega),λk hk=>(Own.cut_old (by have:=h.st.size;omega)).trans (h.st.agree k hk)⟩
 sz:=Nat.le_trans h.sz hm.size
 free:=λk h1 h2=>by rw [Own.cut_old (by have:=h.sz;omega)];exact h.free k h1 h2
 xs:=λk hk=>by
  have hs:=hm.size
  rcases hx k hk with h1|h1
  ·have h2:=h.xs k h1
   exact⟨h2.1,by omega,by rw [Own.cut_old h2.2.1];exact h2.2.2⟩
  exact⟨by have:=h.sz;omega,by omega,Own.cut_new h1.1⟩
theorem vz.blk {B:Nat}{t:List Nat}{ow:Own}{w W0:World}{m:zr}{ow':Own}{X:Nat->Prop}{W W':World}(h:vz B t ow w W0 m ow' X W)(hm:Mod X W W'){k:Nat}(hk:k<W0.heap.size):W'.heap[k]?=W.heap[k]?:=
 hm.block k (by have:=h.sz;omega) (λe=>by have:=(h.xs k e).1;omega)
theorem vz.step {B:Nat}{t:List Nat}{ow:Own}{w W0:World}{m m':zr}{ow1 ow2:Own}{X:Nat->Prop}{W W':World}(h:vz B t ow w W0 m ow1 X W)(hs:zt t ow1 W ow2 W')(hn:jF B m' t ow2 W'):vz B t ow w W0 m' ow2 X W' where
 node:=hn
 st:=h.st.trans hs
 sz:=Nat.le_trans h.sz hs.size
 free:=λk h1 h2=>by rw [hs.agree k (by have:=h.sz;omega)];exact h.free k h1 h2
 xs:=λk hk=>by
  have h2:=h.xs k hk;exact⟨h2.1,by have:=hs.size;omega,by rw [hs.agree k h2.2.1];exact h2.2.2⟩
theorem vz.saves {B:Nat}{t:List Nat}(ht:t≠ []){ow:Own}{w W0:World}{m:zr}{ow1 ow2:Own}{X:Nat->Prop}{W W':World}(h:vz B t ow w W0 m ow1 X W)(hs:zt t ow1 W ow2 W'):jJ X W W':=
 ⟨hs.size,λk hX hk=>hs.block hk (by rw [(h.xs k hX).2.2];exact zj ht)⟩
theorem vz.set {B:Nat}{t:List Nat}{ow:Own}{w W0:World}{m:zr}{ow1:Own}{X:Nat->Prop}{W:World}(ht:t≠ [])(h:vz B t ow w W0 m ow1 X W){p:Addr}(hp:w.heap.size<=p.block)(hp2:ow1 p.block=[])(v:Value):vz B t ow w W0 m ow1 X (W.setCell p v) where
 node:=jF.loc B m t _ _ _ _ h.node (by simp) (λk hk hs=>⟨rfl,N4 _ _ _ _ (λe=>by subst e;rw [hp2] at hs;exact zj ht hs)⟩)
 st:=h.st.setNew p v hp
 sz:=by have:=h.sz;simpa using this
 free:=h.free
 xs:=λk hk=>by simpa using h.xs k hk
structure zk0(B:Nat)(t:List Nat)(ow:Own)(w W0:World)(kb:Nat)(ms:List zA)(v:Value)(ow':Own)(X:Nat->Prop)(W:World):Prop where
 kS:Blk W kb #[v] 42
 row:Row W 78 3 v ms.length (ms.flatMap zg)
 new:∀g,v.ownBlock=some g->w.heap.size<=g/\ow' g=[] /\¬X g
theorem zk0.stab {B:Nat}{t:List Nat}{ow:Own}{w W0:World}{kb:Nat}{m:zr}{ms:List zA}{v:Value}{ow':Own}{X X':Nat->Prop}{W W':World}(hN:vz B t ow w W0 m ow' X W)(h:zk0 B t ow w W0 kb ms v ow' X W)(hk:kb<W0.heap.size)(hm:Mod X W W')(hx:∀k,X' k->X k∨(W.heap.size<=k/\k<W'.heap.size)):
 zk0 B t ow w W0 kb ms v (ow'.cut W) X' W' where
 kS:=h.kS.kept (hN.blk hm hk)
 row:=h.row.mod hm (λg hg=>(h.new g hg).2.2)
 new:=λg hg=>⟨(h.new g hg).1,by rw [Own.cut_old (h.row.lt hg)];exact(h.new g hg).2.1,λhX=>by
  rcases hx g hX with h1|h1
  ·exact(h.new g hg).2.2 h1
  have:=h.row.lt hg;omega⟩
theorem vz.grown {B:Nat}{t:List Nat}(ht:t≠ []){ow:Own}{w W0:World}{m:zr}{ow1:Own}{X:Nat->Prop}{W W':World}{v:Value}(h:vz B t ow w W0 m ow1 X W)(hg:W.grownBy W' v.ownBlock)(hv:∀g,v.ownBlock=some g->w.heap.size<=g/\ow1 g=[] /\¬X g):vz B t ow w W0 m (ow1.cut W) X W' where
 node:=jF.loc B m t _ _ _ _ h.node hg.size (λk hk hs=>⟨Own.cut_old hk,hg.block k hk (λe=>by rw [(hv k e.symm).2.1] at hs;exact zj ht hs)⟩)
 st:=⟨h.st.mod.trans (Mod.grown (X:=λk=>v.ownBlock=some k) hg (λk h=>h)) (λ_ _ e=>e) (λk hk e=>by have:=(hv k e).1;omega),λk hk=>(Own.cut_old (by have:=h.st.size;omega)).trans (h.st.agree k hk)⟩
 sz:=Nat.le_trans h.sz hg.size
 free:=λk h1 h2=>by rw [Own.cut_old (by have:=h.sz;omega)];exact h.free k h1 h2
 xs:=λk hk=>by
  have h2:=h.xs k hk;exact⟨h2.1,by have:=hg.size;omega,by rw [Own.cut_old h2.2.1];exact h2.2.2⟩
theorem zgG(L:zP)(e:jH)(f:Bool):(yk L e f).1.log=L.log++(yk L e f).2.1:=by
 unfold yk
 split
 ·simp
 unfold yK
 split
 ·unfold qL;simp [(qk L _ f).2]
 unfold qL;simp [(qk L _ f).2,(qk L _ f).1]
theorem zgH(s:List UInt8):(jR s).1.length<=64:=by
 unfold jR
 split
 ·simp
 rename_i b r
 split
 ·simp
 rename_i hb
 split
 ·simp
 rename_i l hl
 rw [JS _ _ _ hl];omega
theorem zgI(s:List UInt8):(jz s).1.msgs.length<=64:=by
 unfold jz
 split
 ·simp
 split
 ·simp
 split
 ·exact zgH _
 simp
structure VQ(n:zr)(k:Nat)(m:zr)(ms:List zA):Prop where
 app:m.applied+1=k
 pax:m.pax=n.pax
 acc:m.acc=n.acc
 bad:m.bad=n.bad
 few:xm m.loc m.applied
 log:m.loc.log=n.loc.log++ms
 far:∃f,f+k=10001+(n.applied+1)/\jp 10001 n=((jp f m).1,ms++(jp f m).2)
theorem VQ.bad1 {n m:zr}{k:Nat}{ms:List zA}(h:VQ n k m ms){x:List UInt8}(hx:zE (k:Int) n.pax.known=some x)(hk:k<=10000)(hd:(jz x).2≠0):VQ n (k+1) {m with applied:=m.applied+1} ms:=by
 obtain⟨f,hf,aa⟩:=h.far;obtain⟨f',rfl⟩:∃f',f=f'+1:=⟨f - 1,by omega⟩;refine⟨by show m.applied+1+1=_;rw [h.app],h.pax,h.acc,h.bad,h.few.mono (by simp),h.log,f',by omega,?_⟩;rw [aa,jp,h.pax,show(m.applied:Int)+1=(k:Int)by have:=h.app;omega,hx];simp only;rw [if_pos hd]
theorem VQ.ok1 {n m:zr}{k:Nat}{ms:List zA}(h:VQ n k m ms){x:List UInt8}(hx:zE (k:Int) n.pax.known=some x)(hk:k<=10000)(hd:(jz x).2=0):
 VQ n (k+1) (v7 {m with applied:=m.applied+1} (jz x).1).1 (ms++(v7 {m with applied:=m.applied+1} (jz x).1).2):=by
 obtain⟨f,hf,ac⟩:=h.far;obtain⟨f',rfl⟩:∃f',f=f'+1:=⟨f - 1,by omega⟩;obtain⟨hs,hl,ha⟩:=YX {m with applied:=m.applied+1} (jz x).1;have hq:(v7 {m with applied:=m.applied+1} (jz x).1).2=(yk m.loc (jz x).1 (m.bad.contains (qi {m with applied:=m.applied+1} (jz x).1))).2.1:=rfl;have aa:(v7 {m with applied:=m.applied+1} (jz x).1).1.loc=(yk m.loc (jz x).1 (m.bad.contains (qi {m with applied:=m.applied+1} (jz x).1))).1:=hl;refine⟨by rw [ha];show m.applied+1+1=_;rw [h.app],hs.pax.trans h.pax,hs.acc.trans h.acc,hs.bad.trans h.bad,?_,?_,f',by omega,?_⟩
 ·rw [ha,aa];exact zaK h.few _ _
 ·rw [aa,hq,zgG,h.log,List.append_assoc]
 rw [ac,jp,h.pax,show(m.applied:Int)+1=(k:Int)by have:=h.app;omega,hx]
 simp only;rw [if_neg (by simpa using hd),List.append_assoc]
theorem VQ.few2 {n m:zr}{k:Nat}{ms:List zA}(h:VQ n k m ms):ms.length<=64*k:=by
 have h1:=h.few.len;have h2:=congrArg List.length h.log;have h3:=h.app;rw [N1] at h2;omega
theorem VQ.fin {n m:zr}{k:Nat}{ms:List zA}(h:VQ n k m ms)(hx:zE (k:Int) n.pax.known=none):jp 10001 n=(m,ms):=by
 obtain⟨f,hf,aa⟩:=h.far;rw [aa]
 cases f with
 |zero=>simp [jp]
 |succ f=>
  rw [jp,h.pax,show(m.applied:Int)+1=(k:Int)by have:=h.app;omega,hx];simp
theorem vz.own {B:Nat}{t:List Nat}(ht:t≠ []){ow:Own}{w W0:World}{m:zr}{ow1 ow2:Own}{X:Nat->Prop}{W W':World}(h:vz B t ow w W0 m ow1 X W)(hs:zt t ow1 W ow2 W'){k:Nat}(hk:w.heap.size<=k)(hk2:k<W0.heap.size):W'.heap[k]?=W.heap[k]?:=
 hs.block (by have:=h.sz;omega) (by rw [h.free k hk hk2];exact zj ht)
theorem zk0.step {B:Nat}{t:List Nat}(ht:t≠ []){ow:Own}{w W0:World}{kb:Nat}{m:zr}{ms:List zA}{v:Value}{ow1 ow2:Own}{X:Nat->Prop}{W W':World}(hN:vz B t ow w W0 m ow1 X W)(h:zk0 B t ow w W0 kb ms v ow1 X W)(hk:w.heap.size<=kb)(hk2:kb<W0.heap.size)(hs:zt t ow1 W ow2 W'):zk0 B t ow w W0 kb ms v ow2 X W' where
 kS:=h.kS.kept (hN.own ht hs hk hk2)
 row:=h.row.step hs (λg hg=>by rw [(h.new g hg).2.1];exact zj ht)
 new:=λg hg=>⟨(h.new g hg).1,by rw [hs.agree g (h.row.lt hg)];exact(h.new g hg).2.1,(h.new g hg).2.2⟩
theorem Y9(a:Addr)(B:Nat)(n:zr)(t:List Nat)(ht:t≠ [])(ow:Own)(w:World)(hN:jF B n t ow w)(he:jK w a)(hge:ow 2=[])
 (hb:xm n.loc n.applied) (hap:n.applied<=10000) (hacc:n.acc.length<=200000) (hkn:yz n.pax.known) (hbad:n.bad=[]):
 Calls prog 109 #[.pointer (some ⟨B,0,none⟩)] w (qn B t ow w (jp 10001 n)):=by
 obtain⟨px,sb,lb,pb,av,hI⟩:=hN;have hB:=hI.blk;unfold zz at hB;have cB:=hB.cell;have lB:=hB.lt;have ch:IntKind.i64.wrap ((n.applied:Int)+1)=(n.applied:Int)+1:=by rw [N8];omega
 refine zm func109 rfl ?_;simp only [ntmps109,R8,Nat.reduceAdd,Nat.reduceSub];go_wp2;go_step3;go_wp2;go_step3;obtain⟨Wa,a3⟩:∃Wa,Wa=(w.alloc (.cells #[.pointer (some ⟨B,0,none⟩)] 43)).alloc (.cells #[.slice none 0 0] 42):=⟨_,rfl⟩;have cb:Below w.heap.size w Wa:=by rw [a3];exact pbx
 have bn:Blk Wa w.heap.size #[.pointer (some ⟨B,0,none⟩)] 43:=by rw [a3];exact bkx
 have co:Blk Wa (w.heap.size+1) #[.slice none 0 0] 42:=by rw [a3];exact bkx
 have cq:Wa.heap.size=w.heap.size+2:=by rw [a3];simp
 have br:=hB.call cb;go_wp2_with fail
 rw [← a3];clear a3 cB lB;refine zd [O 0,O 1,O 2,O 3,O 4,O 5,O 6,O 7,E 8] none (λw'=>Blk w' B #[.pointer (some ⟨px,0,none⟩),.int .i64 n.id,.int .i64 n.version,.slice none 0 0,.pointer (some ⟨sb,0,none⟩),.pointer (some ⟨lb,0,none⟩),.pointer (some ⟨pb,0,none⟩),av,.int .i64 (n.offered:Nat),.int .i64 (n.applied:Nat),.int .i64 n.wanted,.bool n.down] 98/\Blk w' w.heap.size #[.pointer (some ⟨B,0,none⟩)] 43/\True) ⟨br.drew,bn.drew,trivial⟩ ?_
 refine We ?_
 refine zc rfl (λK hK=>?_);go_wp2_with fail
 refine(XV B _ _).mono ?_;rintro r w1⟨rfl,rfl⟩;obtain⟨W0,a2⟩:∃W0,W0=((Wa.alloc (.cells #[.pointer (some ⟨B,0,none⟩)] 300)).alloc (.cells #[.int .i64 ((n.applied:Int)+1)] 3)).drew:=⟨_,rfl⟩;have ba:Below Wa.heap.size Wa W0:=by rw [a2];exact pbx
 have ck:Blk W0 Wa.heap.size #[.pointer (some ⟨B,0,none⟩)] 300:=by rw [a2];exact bkx
 have cs:Blk W0 (Wa.heap.size+1) #[.int .i64 ((n.applied:Int)+1)] 3:=by rw [a2];exact bkx
 have dx:W0.heap.size=w.heap.size+4:=by rw [a2];simp [cq]
 have cm:=br.call ba;have ce:=bn.call ba;have c9:=co.call ba;go_wp2;rw [cq] at ck cs;rw [← a2];refine hK.out _ _ (λ_=>⟨cm,ce,trivial⟩) ?_;clear hK K a2;refine ze ?_;have bc:Below w.heap.size w W0:=cb.trans (ba.mono (by omega));have dd:=(zy.loc B px sb lb pb av n t).cut hI bc;clear hB br bn co hI cm ba cb;replace ch:=hid ch;go_wp2_with fail
 refine vg (gf:=188) (lb:=#[.pointer (some ⟨w.heap.size+2+1,0,none⟩),.pointer (some ⟨w.heap.size+2,0,none⟩)]) rfl (enters_of func188 (by kernel_rfl) rfl)
  (VA (w.heap.size+2+1) (w.heap.size+2) B n.pax (t++ [0]) (n.applied+1) (by omega) hkn) (λ_=>rfl)
  (λk X W=>∃m ms v ow',vz B t ow w W0 m ow' X W/\zk0 B t ow w W0 (w.heap.size+1) ms v ow' X W/\VQ n k m ms/\Blk W w.heap.size #[.pointer (some ⟨B,0,none⟩)] 43/\Blk W (w.heap.size+2) #[.pointer (some ⟨B,0,none⟩)] 300/\Blk W (w.heap.size+2+1) #[.int .i64 ((n.applied:Int)+1)] 3)
  (λ_ _ _=>False)
  (λk X X' W W' h hm hx=>by
   obtain⟨m,ms,v,ow',h1,h2,h3,h4,h5,h6⟩:=h
   exact⟨m,ms,v,_,h1.stab ht (by omega) hm hx,h2.stab h1 (by omega) hm hx,h3,h4.kept (h1.blk hm (by omega)),h5.kept (h1.blk hm (by omega)),h6.kept (h1.blk hm (by omega))⟩)
  (λ_ _ X X' W W' h hm hx=>h)
  (λk X W h=>by
   obtain⟨m,ms,v,ow',h1,h2,h3,h4,h5,h6⟩:=h;obtain⟨c2,dq,dw,dr,d0,hn⟩:=h1.node;refine⟨by rw [show((n.applied+1:Nat):Int)=(n.applied:Int)+1 by omega];exact h6,h5,c2,ow',?_⟩
   exact⟨hn.blk.cell 0,by rw [← h3.pax];exact hn.pax⟩)
  ⟨n,[],.slice none 0 0,ow.cut w,⟨⟨_,_,_,_,_,dd⟩,zt.wrap bc (zt.refl _ _ _),N0 _,λk h1 _=>Own.cut_new h1,λk h=>h.elim⟩,⟨c9,z7 _ _ _,by simp [Value.ownBlock]⟩,⟨rfl,rfl,rfl,rfl,hb,by simp,10001,rfl,by simp⟩,ce,ck,cs⟩
  (λx=>[(4,.string (bs x))]) ?assign ?body ?done ?stop
 case assign=>
  intro l' x W K hK;rw [zW] at hK⊢
  gi_wp2
  exact hK
 case stop=>rintro D c X W hD bw h;exact h.elim
 case body=>
  rintro l' k x X W⟨m,ms,v,ow',h1,h2,h3,h4,h5,h6⟩ a8 dk _;rw [zW];have dt:=hkn _ _ a8;have ds:=h3.app;obtain⟨cu,dc,de,cz,c4,b5⟩:=h1.node;have a1:=b5.blk;have du:IntKind.i64.wrap ((m.applied:Int)+1)=(m.applied:Int)+1:=by rw [N8];omega
  have di:m.bad=[]:=h3.bad.trans hbad;unfold zz at a1;have cj:Mod (λk=>k=B) W (W.setCell ⟨B,9,none⟩ (.int .i64 ((m.applied:Int)+1))):=(Mod.refl (λk=>k=B) W).thenSet (p:=⟨B,9,none⟩) rfl _;obtain⟨ar,bk⟩:=b5.setOwn {m with applied:=m.applied+1} cj (a1.set (o:=9) (.int .i64 ((m.applied:Int)+1))) rfl rfl rfl rfl rfl rfl;have aa:=h1.step ar ⟨_,_,_,_,_,bk⟩;have a7:=h2.step ht h1 (by omega) (by omega) ar;have bi:=h4.kept (h1.own ht ar (N0 _) (by omega));have bv:=h5.kept (h1.own ht ar (by omega) (by omega));have bu:=h6.kept (h1.own ht ar (by omega) (by omega));have au:=h1.saves ht ar;have eN:=h4.cell;have lN:=h4.lt;have c8:=a1.cell;have cw:=a1.frozen;have c6:=a1.lt;have aj:=λW=>zgx x W
  have bb:=λhd=>h3.bad1 a8 (by omega) hd
  have a5:=λhd=>h3.ok1 a8 (by omega) hd
  obtain⟨⟨⟨ek,ee,ev,em⟩,er⟩,bd⟩:∃q,jz x=q:=⟨_,rfl⟩;rw [bd] at aj bb a5;unfold Ja ZG at aj;simp only at aj bb a5;replace aj:=hid aj;replace bd:=hid bd;replace bb:=hid bb;replace a5:=hid a5;replace a8:=hid a8;obtain⟨W1,cd⟩:∃W1,W1=W.setCell ⟨B,9,none⟩ (.int .i64 ((m.applied:Int)+1)):=⟨_,rfl⟩
  gi_wp2_with fail
  rw [← cd] at ar bk aa a7 bi bv bu au⊢;clear cd cj h1 h2 h4 h5 h6 eN lN c8 cw c6 a1 b5;refine(inRound _ _ (aj.out _)).mono ?_;rintro r w2⟨mv,rfl,c0,ao,a4⟩;obtain⟨ma,mn,mc,rfl⟩:=ao.shape;have bh:Below W1.heap.size W1 (w2.alloc (.cells #[.int .i64 ek,.int .u32 ee,.int .i64 ev,.slice ma mn mc] 241)):=pbx;have af:=zt.of_below t ow' bh;have dh:=aa.sz
  by_cases her:er=0
  ·subst her
   have ai:=a5.out rfl;have kE:Blk (w2.alloc (.cells #[.int .i64 ek,.int .u32 ee,.int .i64 ev,.slice ma mn mc] 241)) w2.heap.size #[.int .i64 ek,.int .u32 ee,.int .i64 ev,.slice ma mn mc] 241:=Blk.new (by simp);have c5:=c0.size
   gi_wp2_with fail
   obtain⟨W3,az⟩:∃W3,W3=(w2.alloc (.cells #[.int .i64 ek,.int .u32 ee,.int .i64 ev,.slice ma mn mc] 241)).drew:=⟨_,rfl⟩;have ah:Below W1.heap.size W1 W3:=by rw [az];exact zq bh
   have b0:Below w2.heap.size w2 W3:=by rw [az];exact pbx
   have bq:Blk W3 w2.heap.size #[.int .i64 ek,.int .u32 ee,.int .i64 ev,.slice ma mn mc] 241:=by rw [az];exact kE.drew
   have ci:zt t ow' W1 ow' W3:=zt.of_below t ow' ah;have bz:=bi.call ah;have da:=a7.kS.call ah;refine jQ [O 0,O 1,O 2,E 3,E 4,E 5] (some 5) (λw'=>Blk w' (w.heap.size+1) #[v] 42/\Blk w' w.heap.size #[.pointer (some ⟨B,0,none⟩)] 43/\Blk w' w2.heap.size #[.int .i64 ek,.int .u32 ee,.int .i64 ev,.slice ma mn mc] 241/\True) (by rw [← az];exact⟨da,bz,bq,trivial⟩) ?_;rw [← az];clear az kE bh af;have cc:=aa.step ci ((jF.loc B _ t).below aa.node ah);have cn:=a7.step ht aa (by omega) (by omega) ci;have cy:=(zy.loc B cu dc de cz c4 _ t).cut bk ah;have b8:=he.step ht cc.st hge;have df:=he.lt;have b6:(ow'.cut W1) 2=[]:=by rw [Own.cut_old (by have:=aa.st.size;omega),aa.st.agree _ df];exact hge
   have ak:=zgF a B {m with applied:=m.applied+1} t ht (ow'.cut W1) ⟨ek,ee,ev,em⟩ (.slice ma mn mc) W3 cy b8 b6 (Src.below ao.src b0) (λb l c hv=>Own.cut_new (by cases hv;exact a4 _ rfl)) (by have:=zgI x;rw [bd.out] at this;exact Nat.le_trans this (by omega)) h3.few (by omega) (by show m.acc.length<=_;rw [h3.acc];exact hacc);have ae:=ai.few2;obtain⟨⟨m4,bg⟩,b1⟩:∃q,v7 {m with applied:=m.applied+1} ⟨ek,ee,ev,em⟩=q:=⟨_,rfl⟩;rw [b1] at ak ai ae;unfold qn ZG at ak;simp only at ak ai ae;rw [N1] at ae;replace ak:=hid ak;replace b1:=hid b1;replace ai:=hid ai
   refine Wm ?_
   refine zc rfl (λK hK=>?_);go_wp2_with fail
   refine ak.out.mono ?_;rintro r w4⟨v4,cr,rfl,cl,ct,a6,cf⟩;have a0:zt t ow' W1 cr w4:=zt.wrap ah cl;have be:=aa.step a0 ct;have ad:=a7.step ht aa (by omega) (by omega) a0;have bj:=bi.kept (aa.own ht a0 (N0 _) (by omega));have b9:=bv.kept (aa.own ht a0 (by omega) (by omega));have b4:=bu.kept (aa.own ht a0 (by omega) (by omega));have bf:=bq.kept (cl.free ht c5 bq.lt).1;have bm:=aa.saves ht a0;go_wp2;refine hK.out _ _ (λ_=>⟨ad.kS,bj,bf,trivial⟩) ?_;clear hK K;obtain⟨v6,w6,ax,aq,ap,an⟩:=zQ zbD ad.row a6.src (jv bg) (by omega) 42;obtain⟨va,vn,vc,rfl⟩:=aq.shape;have ag:∀g,v.ownBlock=some g->g≠w.heap.size+1/\g≠w.heap.size/\g≠w.heap.size+2/\g≠w.heap.size+2+1:=λg hg=>⟨ad.row.ne_blk ad.kS (by decide) hg,ad.row.ne_blk bj (by decide) hg,ad.row.ne_blk b9 (by decide) hg,ad.row.ne_blk b4 (by decide) hg⟩
   have ay:=ad.kS.kept (w':=w6) (ap.block _ ad.kS.lt (λe=>(ag _ e.symm).1 rfl));have cp:=bj.kept (w':=w6) (ap.block _ bj.lt (λe=>(ag _ e.symm).2.1 rfl));have cx:=b9.kept (w':=w6) (ap.block _ b9.lt (λe=>(ag _ e.symm).2.2.1 rfl));have c3:=b4.kept (w':=w6) (ap.block _ b4.lt (λe=>(ag _ e.symm).2.2.2 rfl));have dg:=bf.kept (w':=w6) (ap.block _ bf.lt (λe=>ad.row.ne_blk bf (by decide) e.symm rfl));have cg:=be.grown ht ap ad.new;have bp:jJ X w4 w6:=⟨ap.size,λk hX hk=>ap.block k hk (λe=>(ad.new k e.symm).2.2 hX)⟩
   have ac:∀g,(Value.slice va vn vc).ownBlock=some g->w.heap.size<=g/\(cr.cut w4) g=[] /\¬X g/\g≠w.heap.size+1:=λg hg=>by
    rw [hg] at an;have dp:=be.sz
    rcases an with h|h
    ·exact⟨(ad.new g h.symm).1,by rw [Own.cut_old (ad.row.lt h.symm)];exact(ad.new g h.symm).2.1,(ad.new g h.symm).2.2,(ag g h.symm).1⟩
    have ca:g=w4.heap.size:=by simpa using h
    subst ca;exact⟨by omega,Own.cut_new (N0 _),λhX=>by have:=(be.xs _ hX).2.1;omega,by omega⟩
   have db:=cg.set ht (p:=⟨w.heap.size+1,0,none⟩) (by show w.heap.size<=w.heap.size+1;omega) (cg.free (w.heap.size+1) (by omega) (by omega)) (.slice va vn vc)
   have a9:Row (w6.setCell ⟨w.heap.size+1,0,none⟩ (.slice va vn vc)) 78 3 (.slice va vn vc) (ms++bg).length ((ms++bg).flatMap zg):=by
    rw [N1,U5];exact Row.kept (w:=w6) aq (λg hg=>N4 _ _ _ _ (show g≠w.heap.size+1 from(ac g hg).2.2.2))
   have b2:jJ X w6 (w6.setCell ⟨w.heap.size+1,0,none⟩ (.slice va vn vc)):=⟨by simp,λk hX hk=>N4 _ _ _ _ (show k≠w.heap.size+1 from λe=>by have:=(be.xs k hX).1;omega)⟩
   have am:(∃m ms v ow',vz B t ow w W0 m ow' X (w6.setCell ⟨w.heap.size+1,0,none⟩ (.slice va vn vc))/\zk0 B t ow w W0 (w.heap.size+1) ms v ow' X (w6.setCell ⟨w.heap.size+1,0,none⟩ (.slice va vn vc))/\VQ n (k+1) m ms/\Blk (w6.setCell ⟨w.heap.size+1,0,none⟩ (.slice va vn vc)) w.heap.size #[.pointer (some ⟨B,0,none⟩)] 43/\Blk (w6.setCell ⟨w.heap.size+1,0,none⟩ (.slice va vn vc)) (w.heap.size+2) #[.pointer (some ⟨B,0,none⟩)] 300/\Blk (w6.setCell ⟨w.heap.size+1,0,none⟩ (.slice va vn vc)) (w.heap.size+2+1) #[.int .i64 ((n.applied:Int)+1)] 3)/\jJ X W (w6.setCell ⟨w.heap.size+1,0,none⟩ (.slice va vn vc)):=
    ⟨⟨m4,ms++bg,.slice va vn vc,_,db,⟨ay.set (o:=0) _,a9,λg hg=>⟨(ac g hg).1,(ac g hg).2.1,(ac g hg).2.2.1⟩⟩,ai.out,cp.other (p:=⟨w.heap.size+1,0,none⟩) (by show w.heap.size≠w.heap.size+1;omega) _,cx.other (p:=⟨w.heap.size+1,0,none⟩) (by show w.heap.size+2≠w.heap.size+1;omega) _,c3.other (p:=⟨w.heap.size+1,0,none⟩) (by show w.heap.size+2+1≠w.heap.size+1;omega) _⟩,((au.trans bm).trans bp).trans b2⟩
   have dj:=ay.cell;have dy:=ay.frozen;have dv:=ay.lt;have dz:=ay;replace am:=hid am;replace ax:=hid ax;replace an:=hid an;replace ag:=hid ag;replace ac:=hid ac;refine zc rfl (λK hK=>?_);refine zw rfl _ _ _ rfl rfl rfl ax.out ?_;unfold wpList;refine hK.out _ _ (λ_=>⟨ay,cp,dg,trivial⟩) ?_;clear hK K;refine zc rfl (λK hK=>?_);go_wp2;refine hK.out _ _ (λhh=>absurd rfl hh) ?_;clear hK K;refine ze ?_
   gi_wp2
   exact am.out
  have t1:(er !=0)=true:=by simpa using her
  have bt:=bb.out her;have cc:=aa.step af ((jF.loc B _ t).below aa.node bh);have cn:=a7.step ht aa (by omega) (by omega) af;have b7:=aa.saves ht af;have bz:=bi.kept (aa.own ht af (N0 _) (by omega));have c7:=bv.kept (aa.own ht af (by omega) (by omega));have cv:=bu.kept (aa.own ht af (by omega) (by omega));replace her:=hid her
  gi_wp2
  exact⟨⟨_,ms,v,ow',cc,cn,bt,bz,c7,cv⟩,au.trans b7⟩
 case done=>
  rintro D k X W hD bw am⟨m,ms,v,ow',h1,h2,h3,h4,h5,h6⟩ bo;have bl:=h3.fin am;replace bl:=hid bl;have c1:=h1.xs D bw;have b3:=h2.row;have al:=h2.new;have aw:∀g,v.ownBlock=some g->g≠D:=λg hg e=>(al g hg).2.2 (e ▸ bw)
  have kS:=h2.kS;have eS:=kS.cell;replace al:=hid al;replace aw:=hid aw;go_wp2;rw [Exit.noGoto_ret];refine jb (D:=D) (v:=v) bo (by simp [results,Tryz.results109,go_sem]) ?_;rw [bl.out];exact⟨v,ow',rfl,h1.st.putNew D _ (by omega),(jF.loc B m t).put ht h1.node c1.2.2 _,b3.kept (λg hg=>U1 (aw.out g hg)),λg hg=>⟨(al.out g hg).1,(al.out g hg).2.1⟩⟩
