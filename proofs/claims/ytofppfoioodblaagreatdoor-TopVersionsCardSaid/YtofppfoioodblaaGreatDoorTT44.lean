/- PARTS OF THE PROOF. -/
import Derived.Test.YtofppfoioodblaaGreatDoorTT43
set_option maxRecDepth 8000
set_option maxHeartbeats 4000000
open Go.Proofs.Tryz
namespace Go.Proofs.YtofppfoioodblaaGreatDoor
section
open Go Go.RowKit Go.Shelf Go.Extern.Stop Go.Stop Go.Extern
attribute [local go_sem] Oper.semAt_some zv zm
theorem zk.delLead {B:Nat}{K:WK}{tv:Value}{lp:Nat->Option Nat}{S:zf}{t:List Nat}{ow:Own}{W:World}(h:zk B K tv lp S t ow W)(hnd:(S.leads.map (·.1)).Nodup){i:Nat}
 {ps:List (Int×Value)} {o:Obj} (hd:(ps.map (·.1)).Nodup) (hps:∀j:Nat,zD (j:Int) ps=(lp j).map λb=>.pointer (some ⟨b,0,none⟩)) (hM:jc (W.putObj K.lm o) K.lm Vb (del (i:Int) ps)):
 zq (t++ [17]) ow W ow (W.putObj K.lm o)/\zk B K tv (λj=>if j=i then none else lp j) {S with leads:=del (i:Int) S.leads} t ow (W.putObj K.lm o):=by
 have hho:=h.leadsM.1;have hst:zq (t++ [17]) ow W ow (W.putObj K.lm o):=zq.putObj W K.lm o (by rw [hho];exact Sub.rfl' _);refine⟨hst,h.blk.kept (hst.block h.blk.lt (qq t 17 h.own)),h.own,λj=>?_⟩
 by_cases hj:j=17
 ·subst hj
  refine⟨hho,_,zbL _ hd,hM,λj=>?_⟩;rw [JS _ _ hd]
  by_cases hji:j=i
  ·subst hji;simp
  ·rw [if_neg (by omega),hps];simp only [if_neg hji]
 by_cases hji:j=i+32
 ·subst hji
  unfold vN;rw [if_neg (by omega),if_neg (by omega),if_neg (by omega),if_neg (by omega),if_neg (by omega),if_neg (by omega),if_neg (by omega),if_neg (by omega),if_neg (by omega),Nat.add_sub_cancel];simp only [if_true,JS _ _ hnd]
 ·have hw:vN B K tv (λj=>if j=i then none else lp j) {S with leads:=del (i:Int) S.leads} t j=vN B K tv lp S t j:=by
   unfold vN;simp only [if_neg hj]
   by_cases hj32:j<32
   ·simp only [if_pos hj32]
   ·simp only [if_neg (show¬j - 32=i by omega),JS _ _ hnd,if_neg (show¬((j - 32:Nat):Int)=(i:Int)by omega)]
  rw [hw];exact(Zi B K tv lp S t j).step (h.part j) hst (zP t (Ne.symm hj))
variable {B:Nat}{K:WK}{S:zf}{v:Int}{k0 L:Nat}{t:List Nat}{ow:Own}{a:Addr}{w:World}
theorem zlm(hG:zu v k0 L S)(hv:known v=true)(ht:t≠ [])(o:OpD)(i:Nat)(hn:o.node=i)(hi:i<S.nodes.length)(h:zL B K S t ow w)(he:jE w a)(hge:ow 2=[]):Calls prog 61 #[opV o,.pointer (some ⟨K.bx,0,none⟩)] w (xZ B K (setNode {xm S i with leads:=del (i:Int) S.leads} i (yP (zr S i) (zt v))) t ow w (.int .i64 0)):=by
 obtain⟨knd,nod,A,bit,msk,str⟩:=o;simp only at hn;subst hn;unfold opV;have hi16:i<16:=by have:=hG.n0;omega
 have y0:(0:Int)<=(i:Int):=by omega
 have y1:(i:Int)<(S.nodes.length:Int):=by omega
 have hb1:Below w.heap.size w (w.alloc (.cells #[.int .i64 knd,.int .i64 (i:Nat),.int .i64 A,.int .i64 bit,.int .u32 (msk:Nat),.string (bs str)] 37)).drew:=zo (zi (N2 _ _) _);have hW1:=(zL.loc B K S t).cut h hb1;have kO:Blk (w.alloc (.cells #[.int .i64 knd,.int .i64 (i:Nat),.int .i64 A,.int .i64 bit,.int .u32 (msk:Nat),.string (bs str)] 37)).drew w.heap.size #[.int .i64 knd,.int .i64 (i:Nat),.int .i64 A,.int .i64 bit,.int .u32 (msk:Nat),.string (bs str)] 37:=(Blk.new rfl).drew;obtain⟨tv,lp,hI1⟩:=hW1;have hom:(ow.cut w) w.heap.size=[]:=Own.cut_new (N0 _);obtain⟨w1,hw1⟩:∃x,x=w.alloc (.cells #[.int .i64 knd,.int .i64 (i:Nat),.int .i64 A,.int .i64 bit,.int .u32 (msk:Nat),.string (bs str)] 37):=⟨_,rfl⟩;obtain⟨ow1,how⟩:∃x,x=ow.cut w:=⟨_,rfl⟩;rw [← how] at hI1 hom;replace how:=hid how;rw [← hw1] at hb1 kO hI1;have eX:=hI1.does.2.2.2.cell 0;have hnl:S.nodes.length=S.nodes.length:=rfl;have cB1:World.cell? w1.drew ⟨B,1,none⟩=some (.slice (some ⟨K.sb,0,none⟩) S.nodes.length S.nodes.length):=hI1.blk.cell 1;obtain⟨os0,ol0,hs0⟩:=hI1.srow;have g3:World.cell? w1.drew ⟨K.sb,i*5+3,none⟩=some (.bool (jg S i).stale):=hs0.cellL (jw (hG.seat hi) (j:=3) (by decide));have f3:∀o,World.frozen? w1.drew ⟨K.sb,o,none⟩=false:=hs0.frozen;have l3:K.sb<w1.drew.heap.size:=hs0.lt;obtain⟨hsA,hIA0⟩:=hI1.setSeat (v:=.bool true) (s':={jg S i with stale:=true}) (hG.seat hi) (j:=3) (by decide) rfl;have kOA:Blk (w1.drew.setCell ⟨K.sb,i*5+3,none⟩ (.bool true)) w.heap.size #[.int .i64 knd,.int .i64 (i:Nat),.int .i64 A,.int .i64 bit,.int .u32 (msk:Nat),.string (bs str)] 37:=kO.other (p:=⟨K.sb,i*5+3,none⟩) (λe=>by have e':w.heap.size=K.sb:=e;rw [e',os0] at hom;simp at hom) _;have hIA:=(zk.loc B K tv lp _ t).below hIA0 (zo (N2 _ _));have hstA:zq t ow1 w1.drew ow1 (w1.drew.setCell ⟨K.sb,i*5+3,none⟩ (.bool true)).drew:=(hsA.mono (Sub.child t 21)).trans (zq.drew _ _ _);have eXA:=hIA.does.2.2.2.cell 0;have kOA':Blk (w1.drew.setCell ⟨K.sb,i*5+3,none⟩ (.bool true)).drew w.heap.size #[.int .i64 knd,.int .i64 (i:Nat),.int .i64 A,.int .i64 bit,.int .u32 (msk:Nat),.string (bs str)] 37:=kOA.drew;replace hs0:=hid hs0;replace hIA0:=hid hIA0;replace hI1:=hid hI1;have cB:World.cell? _ ⟨B,2,none⟩=some (.map (some K.lm)):=(hIA).blk.cell 2;obtain⟨hho,ps,hd,hM,hps⟩:=(hIA).leadsM;obtain⟨od,hdel,hM2⟩:=hM.delete zdk Tryz.underlying58 #[58,132] 0 rfl (i:Int);unfold Vb at hdel;obtain⟨hs2,hI2⟩:=(hIA).delLead hG.leadsN hd hps hM2;have kO2:=(kOA').putObj (λe=>by rw [e] at hom;rw [hho] at hom;simp at hom) od;replace hps:=hid hps;replace hM:=hid hM;replace hM2:=hid hM2;replace hho:=hid hho;obtain⟨b,hnb,px,sb,lb,pb,av,hN⟩:=(hI2).node hi16 (hG.node hi).1;have hnc:=(hI2).nodeCell hnb;have eX2:=(hI2).does.2.2.2.cell 0;have cB2:World.cell? _ ⟨B,0,none⟩=some (.slice (some ⟨K.nb,0,none⟩) S.nodes.length K.nc):=(hI2).blk.cell 0;have hN':=(zx.loc b px sb lb pb av (zr S i) (t++ [i])).below hN (zo (N2 _ _));have hI2':=(zk.loc B K tv _ _ t).below hI2 (zo (N2 _ _));have hstB:zq t ow w ow1 ((w1.drew.setCell ⟨K.sb,i*5+3,none⟩ (.bool true)).drew.putObj K.lm od).drew:=zq.wrap hb1 (by rw [← how.out];exact(hstA.trans (hs2.mono (Sub.child t 17))).trans (zq.drew _ _ _));have hel:=he.lt;have hc:=zbx a b _ _ (by simp) _ _ hN' (he.step ht hstB hge) (by rw [how.out,Own.cut_old hel];exact hge) (by rw [show(zr S i).version=v from(hG.node hi).2.ver];exact hv) (by have:=(hG.node hi).2.ok.bounds.1;exact this);rw [show(zr S i).version=v from(hG.node hi).2.ver] at hc;replace hc:=hid hc;replace hI2':=hid hI2';replace hN:=hid hN;replace hN':=hid hN';replace hnb:=hid hnb
 go_enter func61,ntmps61
 go_wp2_with fail
 rw [← hw1];clear hw1;refine zd [O 0,O 1,O 2,O 3,O 4,O 5,O 6,O 7,E 8] (some 8) (λw'=>w'.cell? ⟨K.bx,0,none⟩=some (.pointer (some ⟨B,0,none⟩))/\w'.cell? ⟨B,1,none⟩=some (.slice (some ⟨K.sb,0,none⟩) S.nodes.length S.nodes.length)/\Blk w' w.heap.size #[.int .i64 knd,.int .i64 (i:Nat),.int .i64 A,.int .i64 bit,.int .u32 (msk:Nat),.string (bs str)] 37/\True) (by kernel_rfl) (by kernel_rfl) ⟨eX,cB1,kO,trivial⟩ ?_
 (repeat (refine za (v:=?_) rfl rfl (λw' h=>?_) (λK k=>?_);rotate_left;obtain⟨f1,f2,f3,f4,_⟩:=h;(try have e1:=f1.cell);(try have e2:=f2.cell);(try have e3:=f3.cell);(try have e4:=f4.cell);go_simp;(try with_reducible rfl);go_simp;refine k _ ?_;clear k K))
 refine zc rfl (λJ hJ=>?_);go_wp2;refine hJ.out _ _ (λhh=>absurd rfl hh) ?_;clear hJ J;refine ze ?_;go_wp2_with fail
 refine zd [O 0,O 1,O 2,O 3,O 4,O 5,E 6,E 7] none (λw'=>w'.cell? ⟨K.bx,0,none⟩=some (.pointer (some ⟨B,0,none⟩))/\w'.cell? ⟨B,2,none⟩=some (.map (some K.lm))/\Blk w' w.heap.size #[.int .i64 knd,.int .i64 (i:Nat),.int .i64 A,.int .i64 bit,.int .u32 (msk:Nat),.string (bs str)] 37/\True) (by kernel_rfl) (by kernel_rfl) ⟨eXA,cB,kOA',trivial⟩ ?_
 (repeat (refine za (v:=?_) rfl rfl (λw' h=>?_) (λK k=>?_);rotate_left;obtain⟨f1,f2,f3,f4,_⟩:=h;(try have e1:=f1.cell);(try have e2:=f2.cell);(try have e3:=f3.cell);(try have e4:=f4.cell);go_simp;(try with_reducible rfl);go_simp;refine k _ ?_;clear k K))
 refine zc rfl (λJ hJ=>?_);go_wp2;refine hJ.out _ _ (λ_=>⟨eXA,cB,kOA',trivial⟩) ?_;clear hJ J;refine zc rfl (λJ hJ=>?_);refine vt rfl _ _ _ _ rfl rfl rfl hdel ?_;unfold wpList;refine hJ.out _ _ (λ_=>⟨eX2,hI2.blk.cell 2,kO2,trivial⟩) ?_;clear hJ J;refine ze ?_;go_wp2_with fail
 refine ZS [O 0,O 1,O 2,O 3,O 4,O 5,O 6,O 7,E 8,O 9] (some 8) (λw'=>w'.cell? ⟨K.bx,0,none⟩=some (.pointer (some ⟨B,0,none⟩))/\w'.cell? ⟨B,0,none⟩=some (.slice (some ⟨K.nb,0,none⟩) S.nodes.length K.nc)/\w'.cell? ⟨K.nb,i,none⟩=some (.pointer (some ⟨b,0,none⟩))/\Blk w' w.heap.size #[.int .i64 knd,.int .i64 (i:Nat),.int .i64 A,.int .i64 bit,.int .u32 (msk:Nat),.string (bs str)] 37/\True) (by kernel_rfl) (by kernel_rfl) ⟨eX2,cB2,hnc,kO2,trivial⟩ ?_
 (repeat (refine zX (v:=?_) rfl rfl (λw' h=>?_) (λK k=>?_);rotate_left;obtain⟨f1,f2,f3,f4,_⟩:=h;have e4:=f4.cell;go_simp;(try with_reducible rfl);go_simp;refine k _ ?_;clear k K))
 refine qK rfl (λJ hJ=>?_);go_wp2_with fail
 refine hc.out.mono ?_;rintro e w3⟨rfl,ow3,hs3,hN3⟩;go_wp2;refine hJ.out _ _ ?_;clear hJ J
 (repeat (refine zX (v:=?_) rfl rfl (λw' h=>?_) (λK k=>?_);rotate_left;(focus (clear h;go_simp;(try with_reducible rfl)));(go_simp;refine k _ ?_;clear k K)))
 refine yh ?_;go_wp2;go_ret
 exact⟨rfl,ow3,hstB.trans (hs3.mono (Sub.child t i)),tv,_,hI2'.out.setNode hi16 hnb.out hs3 hN3⟩
end
section
open Go Go.RowKit Go.Shelf Go.Extern.Stop Go.Stop Go.Extern
attribute [local go_sem] Oper.semAt_some zv zm
variable {B:Nat}{K:WK}{S:zf}{v:Int}{k0 L:Nat}{t:List Nat}{ow:Own}{a:Addr}{w:World}
theorem zln(hG:zu v k0 L S)(ht:t≠ [])(o:OpD)(ho:zkX o)(i:Nat)(hn:o.node=i)(hi:i<S.nodes.length)(h:zL B K S t ow w):Calls prog 45 #[opV o,.pointer (some ⟨K.bx,0,none⟩)] w (xZ B K (setNode (xm S i) i (zF (zr S i) o.s).1) t ow w (.int .i64 (zF (zr S i) o.s).2.2)):=by
 have hlen:=ho.len;clear ho;obtain⟨knd,nod,A,bit,msk,str⟩:=o;simp only at hn;subst hn;unfold opV;have hi16:i<16:=by have:=hG.n0;omega
 have y0:(0:Int)<=(i:Int):=by omega
 have y1:(i:Int)<(S.nodes.length:Int):=by omega
 have hb1:Below w.heap.size w (w.alloc (.cells #[.int .i64 knd,.int .i64 (i:Nat),.int .i64 A,.int .i64 bit,.int .u32 (msk:Nat),.string (bs str)] 37)).drew:=zo (zi (N2 _ _) _);have hW1:=(zL.loc B K S t).cut h hb1;have kO:Blk (w.alloc (.cells #[.int .i64 knd,.int .i64 (i:Nat),.int .i64 A,.int .i64 bit,.int .u32 (msk:Nat),.string (bs str)] 37)).drew w.heap.size #[.int .i64 knd,.int .i64 (i:Nat),.int .i64 A,.int .i64 bit,.int .u32 (msk:Nat),.string (bs str)] 37:=(Blk.new rfl).drew;obtain⟨tv,lp,hI1⟩:=hW1;have hom:(ow.cut w) w.heap.size=[]:=Own.cut_new (N0 _);obtain⟨w1,hw1⟩:∃x,x=w.alloc (.cells #[.int .i64 knd,.int .i64 (i:Nat),.int .i64 A,.int .i64 bit,.int .u32 (msk:Nat),.string (bs str)] 37):=⟨_,rfl⟩;obtain⟨ow1,how⟩:∃x,x=ow.cut w:=⟨_,rfl⟩;rw [← how] at hI1 hom;replace how:=hid how;rw [← hw1] at hb1 kO hI1;have eX:=hI1.does.2.2.2.cell 0;have hnl:S.nodes.length=S.nodes.length:=rfl;simp only at hlen;have cB1:World.cell? w1.drew ⟨B,1,none⟩=some (.slice (some ⟨K.sb,0,none⟩) S.nodes.length S.nodes.length):=hI1.blk.cell 1;obtain⟨os0,ol0,hs0⟩:=hI1.srow;have g3:World.cell? w1.drew ⟨K.sb,i*5+3,none⟩=some (.bool (jg S i).stale):=hs0.cellL (jw (hG.seat hi) (j:=3) (by decide));have f3:∀o,World.frozen? w1.drew ⟨K.sb,o,none⟩=false:=hs0.frozen;have l3:K.sb<w1.drew.heap.size:=hs0.lt;obtain⟨hsA,hIA0⟩:=hI1.setSeat (v:=.bool true) (s':={jg S i with stale:=true}) (hG.seat hi) (j:=3) (by decide) rfl;have kOA:Blk (w1.drew.setCell ⟨K.sb,i*5+3,none⟩ (.bool true)) w.heap.size #[.int .i64 knd,.int .i64 (i:Nat),.int .i64 A,.int .i64 bit,.int .u32 (msk:Nat),.string (bs str)] 37:=kO.other (p:=⟨K.sb,i*5+3,none⟩) (λe=>by have e':w.heap.size=K.sb:=e;rw [e',os0] at hom;simp at hom) _;have hIA:=(zk.loc B K tv lp _ t).below hIA0 (zo (N2 _ _));have hstA:zq t ow1 w1.drew ow1 (w1.drew.setCell ⟨K.sb,i*5+3,none⟩ (.bool true)).drew:=(hsA.mono (Sub.child t 21)).trans (zq.drew _ _ _);have eXA:=hIA.does.2.2.2.cell 0;have kOA':Blk (w1.drew.setCell ⟨K.sb,i*5+3,none⟩ (.bool true)).drew w.heap.size #[.int .i64 knd,.int .i64 (i:Nat),.int .i64 A,.int .i64 bit,.int .u32 (msk:Nat),.string (bs str)] 37:=kOA.drew;replace hs0:=hid hs0;replace hIA0:=hid hIA0;replace hI1:=hid hI1;obtain⟨wA,hwA⟩:∃x,x=(w1.setCell ⟨K.sb,i*5+3,none⟩ (.bool true)).drew.drew:=⟨_,rfl⟩;have hwA':(w1.drew.setCell ⟨K.sb,i*5+3,none⟩ (.bool true)).drew=wA:=by rw [hwA];rfl
 rw [hwA'] at hIA hstA kOA' eXA;clear hwA';obtain⟨b,hnb,px,sb,lb,pb,av,hN⟩:=(hIA).node hi16 (hG.node hi).1;have hnc:=(hIA).nodeCell hnb;have eX2:=(hIA).does.2.2.2.cell 0;have cB2:World.cell? _ ⟨B,0,none⟩=some (.slice (some ⟨K.nb,0,none⟩) S.nodes.length K.nc):=(hIA).blk.cell 0;have hstB:zq t ow w ow1 wA:=zq.wrap hb1 (by rw [← how.out];exact hstA);have omA:ow1 w.heap.size=[]:=hom;have hgk:=(hG.node hi).2.ok.2;have hgf:=(hG.node hi).2.few.1;have hcc:=λW ow' hW=>XP (px:=px) (sb:=sb) (lb:=lb) (pb:=pb) (av:=av) b (zr S i) (t++ [i]) (by simp) ow' str (by omega) W hW hgk (by omega)
 obtain⟨⟨m,⟨⟨mi,mc⟩,md⟩,er⟩,hbc⟩:∃q,zF (zr S i) str=q:=⟨_,rfl⟩;rw [hbc] at hcc;simp only [hbc];unfold zho vo at hcc;simp only at hcc;replace hcc:=hid hcc;replace hbc:=hid hbc;replace hgk:=hid hgk
 go_enter func45,ntmps45
 go_wp2_with fail
 rw [← hw1];clear hw1;refine zd [O 0,O 1,O 2,O 3,O 4,O 5,O 6,O 7,E 8] (some 8) (λw'=>w'.cell? ⟨K.bx,0,none⟩=some (.pointer (some ⟨B,0,none⟩))/\w'.cell? ⟨B,1,none⟩=some (.slice (some ⟨K.sb,0,none⟩) S.nodes.length S.nodes.length)/\Blk w' w.heap.size #[.int .i64 knd,.int .i64 (i:Nat),.int .i64 A,.int .i64 bit,.int .u32 (msk:Nat),.string (bs str)] 37/\True) (by kernel_rfl) (by kernel_rfl) ⟨eX,cB1,kO,trivial⟩ ?_
 (repeat (refine za (v:=?_) rfl rfl (λw' h=>?_) (λK k=>?_);rotate_left;obtain⟨f1,f2,f3,f4,_⟩:=h;(try have e1:=f1.cell);(try have e2:=f2.cell);(try have e3:=f3.cell);(try have e4:=f4.cell);go_simp;(try with_reducible rfl);go_simp;refine k _ ?_;clear k K))
 refine zc rfl (λJ hJ=>?_);go_wp2;refine hJ.out _ _ (λhh=>absurd rfl hh) ?_;clear hJ J;refine ze ?_;go_wp2_with fail
 refine xg [O 0,O 1,O 2,O 3,O 4,O 5,O 6,O 7,O 8,O 9] (some 10) (λw'=>w'.cell? ⟨K.bx,0,none⟩=some (.pointer (some ⟨B,0,none⟩))/\w'.cell? ⟨B,0,none⟩=some (.slice (some ⟨K.nb,0,none⟩) S.nodes.length K.nc)/\w'.cell? ⟨K.nb,i,none⟩=some (.pointer (some ⟨b,0,none⟩))/\Blk w' w.heap.size #[.int .i64 knd,.int .i64 (i:Nat),.int .i64 A,.int .i64 bit,.int .u32 (msk:Nat),.string (bs str)] 37/\True) #[true,true,true,true,true,true,true,true,true,true,false,false,false,false,false,false,false] (m:=7) (by kernel_rfl) (by kernel_rfl) (by rw [← hwA];exact⟨eX2,cB2,hnc,kOA',trivial⟩) ?_;rw [← hwA];clear hwA
 (repeat (refine zX (v:=?_) rfl rfl (λw' h=>?_) (λK k=>?_);rotate_left;obtain⟨f1,f2,f3,f4,_⟩:=h;(try have e1:=f1.cell);(try have e2:=f2.cell);(try have e3:=f3.cell);(try have e4:=f4.cell);go_simp;(try with_reducible rfl);go_simp;refine k _ ?_;clear k K))
 refine yh (λ_=>?_);refine zbE 10 [14] (by kernel_rfl) ?_ (Qr ?_ zbF)
 ·refine zbH rfl (by decide) (λJ hJ=>?_)
  go_wp2_with fail
  refine(hcc.out _ _ hN).mono ?_;rintro e w2⟨rfl,ow2,hs2,hN2⟩;have hI2:=hIA.setNode hi16 hnb hs2 hN2;have hst2:=hstB.trans (hs2.mono (Sub.child t i));go_wp2;refine hJ.out _ _ ?_;clear hJ J;refine qt [O 11,O 12,O 13,E 14,E 15,O 16] (by kernel_rfl) (λ_=>trivial) ?_
  (repeat (refine zX (v:=?_) rfl rfl (λw' h=>?_) (λK k=>?_);rotate_left;(focus (clear h;go_simp;(try with_reducible rfl)));(go_simp;refine k _ ?_;clear k K)))
  refine yB rfl (by simp) (λJ hJ=>?_);go_wp2;refine hJ.out _ _ trivial ?_;clear hJ J;refine yB rfl (by simp) (λJ hJ=>?_);go_wp2;refine hJ.out _ _ trivial ?_;clear hJ J
  (repeat (refine zX (v:=?_) rfl rfl (λw' h=>?_) (λK k=>?_);rotate_left;(focus (clear h;go_simp;(try with_reducible rfl)));(go_simp;refine k _ ?_;clear k K)))
  refine yh ?_;go_wp2;go_ret
  exact⟨rfl,_,hst2.trans (zq.wrap (zi (N2 _ _) _) (zq.refl _ _ _)),tv,lp,(zk.loc B K tv lp _ t).cut hI2 (zi (N2 _ _) _)⟩
 ·refine zbG rfl (λJ hJ=>?_)
  go_wp2;refine hJ.out _ _ ⟨jz eX2 _,jz cB2 _,jz hnc _,kOA'.alloc _,trivial⟩ ?_;clear hJ J;refine qt [E 10,O 11,O 12,O 13,E 15,O 16] (by kernel_rfl) (λ_=>⟨jz eX2 _,jz cB2 _,jz hnc _,kOA'.alloc _,trivial⟩) ?_;refine qK rfl (λJ hJ=>?_);go_wp2_with fail
  have hbA:Below wA.heap.size wA (wA.alloc (.cells #[.int .i64 0,.int .u32 0,.string ⟨#[]⟩] 78)):=zi (N2 _ _) _;have kV:Blk (wA.alloc (.cells #[.int .i64 0,.int .u32 0,.string ⟨#[]⟩] 78)) wA.heap.size #[.int .i64 0,.int .u32 0,.string ⟨#[]⟩] 78:=Blk.new rfl;have hIV:=(zk.loc B K tv lp _ t).cut hIA hbA;have hNV:=(zx.loc _ _ _ _ _ _ _ _).cut hN hbA;have ovV:(ow1.cut wA) wA.heap.size=[]:=Own.cut_new (N0 _);refine(hcc.out _ _ hNV).mono ?_;rintro e w2⟨rfl,ow2,hs2,hN2⟩;have hI2:=hIV.setNode hi16 hnb hs2 hN2;have kV2:=kV.kept (hs2.block kV.lt (by rw [ovV];exact zj (by simp)));have ov2:ow2 wA.heap.size=[]:=(hs2.agree _ kV.lt).trans ovV;have hst2:zq t ow w ow2 w2:=hstB.trans (zq.wrap hbA (hs2.mono (Sub.child t i)));have cv2:=kV2.cell;have fv2:=kV2.frozen;have lv2:=kV2.lt;go_wp2;refine hJ.out _ _ ?_;clear hJ J
  (repeat (refine zX (v:=?_) rfl rfl (λw' h=>?_) (λK k=>?_);rotate_left;(focus (clear h;go_simp;(try with_reducible rfl)));(go_simp;refine k _ ?_;clear k K)))
  refine yB rfl (by simp) (λJ hJ=>?_);go_wp2;refine hJ.out _ _ trivial ?_;clear hJ J cv2 fv2 lv2
  (repeat (refine zX (v:=?_) rfl rfl (λw' h=>?_) (λK k=>?_);rotate_left;(focus (clear h;go_simp;(try with_reducible rfl)));(go_simp;refine k _ ?_;clear k K)))
  refine yh ?_;obtain⟨w3,hw3⟩:∃x,x=((w2.setCell ⟨wA.heap.size,0,none⟩ (.int .i64 mi)).setCell ⟨wA.heap.size,1,none⟩ (.int .u32 (mc:Nat))).setCell ⟨wA.heap.size,2,none⟩ (.string (bs md)):=⟨_,rfl⟩;have hM3:Mod (λk=>k=wA.heap.size) w2 w3:=by rw [hw3];exact(((Mod.refl (λk=>k=wA.heap.size) w2).thenSet (p:=⟨wA.heap.size,0,none⟩) rfl _).thenSet (p:=⟨wA.heap.size,1,none⟩) rfl _).thenSet (p:=⟨wA.heap.size,2,none⟩) rfl _
  rw [← hw3];clear hw3;have hI3:=(zk.loc B K tv lp _ t).modFree ht hI2 ov2 hM3;have hsz:=hstB.size;have hst3:=hst2.modNew hsz hM3;go_wp2;go_ret
  exact⟨rfl,_,hst3,tv,lp,hI3⟩
end
section
open Go Go.RowKit Go.Shelf Go.Extern.Stop Go.Stop Go.Extern
attribute [local go_sem] Oper.semAt_some zv zm
variable {B:Nat}{K:WK}{S:zf}{v:Int}{k0 L:Nat}{t:List Nat}{ow:Own}{a:Addr}{w:World}
theorem zhL(hG:zu v k0 L S)(hL:L<=3000000000)(hv:known v=true)(ht:t≠ [])(o:OpD)(ho:zkX o)(k:Nat)(hk:k=1∨k=2∨k=3∨k=9∨k=10)(hkd:o.kind=k)(hi:¬(3<=o.kind/\o.kind<=6)->0<=o.node/\o.node<S.nodes.length)
 (h:zL B K S t ow w) (he:jE w a) (hge:ow 2=[]):Calls prog (zds k) #[opV o,.pointer (some ⟨K.bx,0,none⟩)] w (xZ B K (yZ S (zt v) o).1 t ow w (.int .i64 (yZ S (zt v) o).2)):=by
 have hn:¬(3<=o.kind/\o.kind<=6)->o.node=(o.node.toNat:Nat)/\o.node.toNat<S.nodes.length:=λhk=>by have:=hi hk;omega
 rcases hk with rfl|rfl|rfl|rfl|rfl
 ·have:=hn (by rw [hkd];decide)
  have hd:yZ S (zt v) o=(setNode (xm S o.node.toNat) o.node.toNat (zF (zr S o.node.toNat) o.s).1,(zF (zr S o.node.toNat) o.s).2.2):=by unfold yZ;simp [hkd]
  rw [hd];exact zln hG ht o ho _ this.1 this.2 h
 ·have:=hn (by rw [hkd];decide)
  have hd:yZ S (zt v) o=yk S o.node.toNat:=by unfold yZ;simp [hkd]
  rw [hd];exact zll hG hL ht o _ this.1 this.2 h
 ·have hd:yZ S (zt v) o=xw S o.a:=by unfold yZ;simp [hkd]
  rw [hd];exact zlk hG hL ht o h he hge
 ·have:=hn (by rw [hkd];decide)
  have hd:yZ S (zt v) o=(setNode {xm S o.node.toNat with leads:=del o.node S.leads} o.node.toNat (yP (zr S o.node.toNat) (zt v)),0):=by unfold yZ;simp [hkd]
  rw [hd];have h9:=zlm hG hv ht o _ this.1 this.2 h he hge
  rwa [← this.1] at h9
 ·have:=hn (by rw [hkd];decide)
  have hd:yZ S (zt v) o=(setNode S o.node.toNat (ZY (zr S o.node.toNat) o.a).1,(ZY (zr S o.node.toNat) o.a).2):=by unfold yZ;simp [hkd]
  rw [hd];exact zkY hG o _ this.1 this.2 h
theorem zkq(bx:Nat){k:Nat}(h:1<=k/\k<=10):zD (k:Int) (zdb bx)=some (YA bx k):=by
 rcases(by omega:k=1∨k=2∨k=3∨k=4∨k=5∨k=6∨k=7∨k=8∨k=9∨k=10)with rfl|rfl|rfl|rfl|rfl|rfl|rfl|rfl|rfl|rfl<;>rfl
theorem zb0 {k:Nat}(h:1<=k/\k<=10):∀args w,(callFunc (zds k) args).run prog w=.ok (.enter (zds k) args) w:=by
 rcases(by omega:k=1∨k=2∨k=3∨k=4∨k=5∨k=6∨k=7∨k=8∨k=9∨k=10)with rfl|rfl|rfl|rfl|rfl|rfl|rfl|rfl|rfl|rfl
 ·exact enters_of func45 (by kernel_rfl) rfl
 ·exact enters_of func47 (by kernel_rfl) rfl
 ·exact enters_of func49 (by kernel_rfl) rfl
 ·exact enters_of func51 (by kernel_rfl) rfl
 ·exact enters_of func53 (by kernel_rfl) rfl
 ·exact enters_of func55 (by kernel_rfl) rfl
 ·exact enters_of func57 (by kernel_rfl) rfl
 ·exact enters_of func59 (by kernel_rfl) rfl
 ·exact enters_of func61 (by kernel_rfl) rfl
 ·exact enters_of func63 (by kernel_rfl) rfl
end
open Go Go.RowKit Go.Shelf Go.Extern.Stop Go.Stop Go.Extern
attribute [local go_sem] Oper.semAt_some zv zm
variable {B:Nat}{K:WK}{S:zf}{v:Int}{k0 L:Nat}{t:List Nat}{ow:Own}{a:Addr}{w:World}
theorem zdt {tv:Value}{lp:Nat->Option Nat}{W:World}(hI:zk B K tv lp S t ow W){i:Int}(hl:S.trace.length<=1000000000):
 ∃sa sc W7,(Builtin.append_ #[40,40] 40 #[tv,.slice (some ⟨W.heap.size,0,none⟩) 1 1]).run prog (W.alloc (.cells #[.int .i64 2,.int .i64 i,.int .i64 0,.int .u32 0,.string ⟨#[]⟩] 80))=.ok (.slice sa (S.trace.length+1) sc) W7/\
  W7.cell? ⟨B,6,none⟩=some tv/\(∀o,W7.frozen? ⟨B,o,none⟩=false)/\B<W7.heap.size/\(∀k,k<W.heap.size->ow k=[] ->W7.heap[k]?=W.heap[k]?)/\
  ∃ow',zq t ow W ow' (W7.setCell ⟨B,6,none⟩ (.slice sa (S.trace.length+1) sc))/\zL B K {S with trace:=S.trace++ [(2,i,((0,0),[]))] } t ow' (W7.setCell ⟨B,6,none⟩ (.slice sa (S.trace.length+1) sc)):=by
 have hb5:Below W.heap.size W (W.alloc (.cells #[.int .i64 2,.int .i64 i,.int .i64 0,.int .u32 0,.string ⟨#[]⟩] 80)):=zi (N2 _ _) _;have k5:Blk (W.alloc (.cells #[.int .i64 2,.int .i64 i,.int .i64 0,.int .u32 0,.string ⟨#[]⟩] 80)) W.heap.size #[.int .i64 2,.int .i64 i,.int .i64 0,.int .u32 0,.string ⟨#[]⟩] 80:=Blk.new rfl;have hsrc5:Src (W.alloc (.cells #[.int .i64 2,.int .i64 i,.int .i64 0,.int .u32 0,.string ⟨#[]⟩] 80)) (.slice (some ⟨W.heap.size,0,none⟩) 1 1) 5 [((2,i,(0,0),[]):JP)].length ([((2,i,(0,0),[]):JP)].flatMap xD):=jM (n:=1) (size:=5) (cap:=1) k5 rfl (N0 1);have hI5:=(zk.loc B K tv lp _ t).cut hI hb5;obtain⟨pv',W7,hrun,hrow,hgr,hown⟩:=zT zlw hI5.trow.2 hsrc5 (Y0 _) (by simp;omega) 40
 have hrow':Row W7 80 5 pv' (S.trace++ [(2,i,(0,0),[])]).length ((S.trace++ [(2,i,(0,0),[])]).flatMap xD):=by
  rw [N1,U5];exact hrow
 obtain⟨sa,sc,rfl⟩:=hrow'.wideV.shape;obtain⟨ow8,hs8,hfr8,hI8⟩:=hI5.setTrace hrow' hgr hown;simp only [N1,U2] at hs8 hI8 hrun;have k7:=hI5.blk.kept (w':=W7) (hgr.block B hI5.blk.lt (λe=>(hI5.trow.2).ne_blk hI5.blk (by decide) e.symm rfl));exact⟨sa,sc,W7,hrun,k7.cell 6,k7.frozen,k7.lt,λk hk ho=>(hgr.block k (Nat.lt_of_lt_of_le hk hb5.size) (λe=>by have:=hI.trow.1 k e.symm;rw [ho] at this;simp at this)).trans (hb5.block k hk),ow8,zq.wrap hb5 hs8,_,_,hI8⟩
theorem zji(hk0:k0<=100000000)(ht:t≠ [])(o:OpD)(hG2:zu v k0 (L+16) (yZ S (zt v) o).1)(hdeed:∀ow w,zL B K S t ow w->jE w a->ow 2=[] ->Calls prog (zds o.kind.toNat) #[opV o,.pointer (some ⟨K.bx,0,none⟩)] w (xZ B K (yZ S (zt v) o).1 t ow w (.int .i64 (yZ S (zt v) o).2)))(k:Nat)(hk:1<=k/\k<=10)(hkd:o.kind=k)(hbad:¬(3<=o.kind/\o.kind<=6)->0<=o.node/\o.node<S.nodes.length)
 (h:zL B K S t ow w) (he:jE w a) (hge:ow 2=[]):Calls prog 13 #[.pointer (some ⟨B,0,none⟩),opV o] w (xZ B K (doW (zt v) S o).1 t ow w (.int .i64 (doW (zt v) S o).2)):=by
 have hi:=hbad;unfold opV;obtain⟨knd,nod,A,bit,msk,str⟩:=o;have hb1:Below w.heap.size w (w.alloc (.cells #[.int .i64 knd,.int .i64 nod,.int .i64 A,.int .i64 bit,.int .u32 (msk:Nat),.string (bs str)] 37)):=zi (N2 _ _) _;have hW1:=(zL.loc B K S t).cut h hb1;have kO:Blk (w.alloc (.cells #[.int .i64 knd,.int .i64 nod,.int .i64 A,.int .i64 bit,.int .u32 (msk:Nat),.string (bs str)] 37)) w.heap.size #[.int .i64 knd,.int .i64 nod,.int .i64 A,.int .i64 bit,.int .u32 (msk:Nat),.string (bs str)] 37:=Blk.new rfl;have hom:(ow.cut w) w.heap.size=[]:=Own.cut_new (N0 _);obtain⟨tv,lp,hI1⟩:=hW1;obtain⟨w1,hw1⟩:∃x,x=w.alloc (.cells #[.int .i64 knd,.int .i64 nod,.int .i64 A,.int .i64 bit,.int .u32 (msk:Nat),.string (bs str)] 37):=⟨_,rfl⟩;obtain⟨ow1,how⟩:∃x,x=ow.cut w:=⟨_,rfl⟩;rw [← how] at hI1 hom;rw [← hw1] at hb1 kO hI1;have hni:=Vj w1 hI1;have hnd:=λW hW=>Xl (B:=B) (K:=K) (tv:=tv) (lp:=lp) (S:=S) (t:=t) (ow:=ow1) nod W hW
 have hka:=λW=>zdj knd W
 have c5:w1.drew.cell? ⟨B,5,none⟩=some (.map (some K.dm)):=hI1.blk.cell 5;have hdm:jc w1.drew K.dm zi9 (zdb K.bx):=hI1.does.2.2.1;have hlk:=λW (hW:jc W K.dm zi9 (zdb K.bx))=>hW.lookup_ok xY Tryz.underlying63 (z:=.nilFunc) (by kernel_rfl) knd
 simp only at hkd hbad;simp only at hi;subst hkd;simp only [zkq K.bx hk] at hlk;have hel:=he.lt;have hWd:zL B K S t ow1 w1.drew:=⟨tv,lp,(zk.loc B K tv lp S t).below hI1 (zo (N2 _ _))⟩;have hst1:zq t ow w ow1 w1.drew:=zq.wrap hb1 (by rw [← how];exact zq.drew _ _ _);have hed:jE w1.drew a:=he.step ht hst1 hge;have hged:ow1 2=[]:=by rw [how,Own.cut_old hel];exact hge
 have hdc:=hdeed _ _ hWd hed hged;simp only [Int.toNat_natCast] at hdc;clear hdeed
 have hdo:doW (zt v) S ⟨(k:Int),nod,A,bit,msk,str⟩=if(k:Int)=1/\(yZ S (zt v) ⟨(k:Int),nod,A,bit,msk,str⟩).2≠0 then({vZ (yZ S (zt v) ⟨(k:Int),nod,A,bit,msk,str⟩).1 with trace:=(vZ (yZ S (zt v) ⟨(k:Int),nod,A,bit,msk,str⟩).1).trace++ [(2,nod,((0,0),[]))] },(yZ S (zt v) ⟨(k:Int),nod,A,bit,msk,str⟩).2)else(vZ (yZ S (zt v) ⟨(k:Int),nod,A,bit,msk,str⟩).1,(yZ S (zt v) ⟨(k:Int),nod,A,bit,msk,str⟩).2):=by
  unfold doW;rw [if_neg (by simp only;omega),if_neg (by simp only;omega)]
 obtain⟨⟨S2,er⟩,hdw⟩:∃q,yZ S (zt v) ⟨(k:Int),nod,A,bit,msk,str⟩=q:=⟨_,rfl⟩;rw [hdw] at hdc hG2 hdo;simp only at hdc hG2 hdo;have hG4:=hG2.tell;unfold opV at hdc;simp only at hdc;replace hni:=hid hni;replace hnd:=hid hnd;replace hka:=hid hka;replace hlk:=hid hlk;replace how:=hid how;replace hdw:=hid hdw;replace hWd:=hid hWd;replace hG2:=hid hG2;replace hG4:=hid hG4;replace hI1:=hid hI1;clear h hbad;have hen:=zb0 hk;have hlk2:=λW hW=>hlk.out W hW
 simp only [YA] at hlk2;clear hlk;obtain⟨fd,hfd⟩:∃f,zds k=f:=⟨_,rfl⟩;rw [hfd] at hdc hen hlk2;replace hlk2:=hid hlk2;replace hdc:=hid hdc;replace hfd:=hid hfd
 by_cases h36:3<=k/\k<=6
 ·have hnk:¬((k:Int)=1/\er≠0):=by omega
  rw [if_neg hnk] at hdo;have hka2:=λW=>hka.out W
  simp only [show(!(decide (3<=(k:Int))&& decide ((k:Int)<=6)))=false by simp;omega] at hka2;replace hka2:=hid hka2;replace hdo:=hid hdo;have tk:((k:Int)==1)=false:=by simp;omega
  clear hi hnk hk h36
  go_enter func13,ntmps13
  go_wp2_with fail
  rw [← hw1];clear hw1;refine(hni.out).mono ?_;rintro e w2⟨rfl,hw2⟩;obtain rfl:=hw2.symm;go_wp2_with fail
  refine zd [O 0,O 1,O 2,O 3,O 4,O 5,O 6,O 7,O 8,O 9,O 10,O 11] none (λw'=>w'.cell? ⟨B,5,none⟩=some (.map (some K.dm))/\Blk w' w.heap.size #[.int .i64 (k:Nat),.int .i64 nod,.int .i64 A,.int .i64 bit,.int .u32 (msk:Nat),.string (bs str)] 37/\(Instr.lookup 63 (.map (some K.dm)) (.int .i64 (k:Nat)) true).run prog w'=.ok (.tuple #[.func (.func fd) #[] #[.pointer (some ⟨K.bx,0,none⟩)],.bool true]) w'/\True) (by kernel_rfl) (by kernel_rfl) ⟨c5,kO.drew,hlk2.out _ hdm,trivial⟩ ?_
  (repeat (refine za (v:=?_) rfl rfl (λw' h=>?_) (λK k=>?_);rotate_left;obtain⟨f1,f2,f3,_⟩:=h;have e2:=f2.cell;(try have e3:=f3.cell);go_simp;(try with_reducible rfl);go_simp;refine k _ ?_;clear k K))
  refine ze ?_;have cO:=kO.cell;go_wp2_with fail
  refine(hka2.out _).mono ?_;rintro e w2⟨rfl,hw2⟩;obtain rfl:=hw2.symm;go_wp2_with fail
  refine hdc.out.mono ?_;rintro e w3⟨rfl,ow3,hs3,hW3⟩;have hst3:zq t ow w ow3 w3:=zq.wrap hb1 (by rw [← how.out];exact(zq.drew _ _ _).trans hs3);have kO3:=kO.drew.kept (hs3.block kO.lt (by rw [hom];exact zj ht));have om3:ow3 w.heap.size=[]:=(hs3.agree _ kO.lt).trans hom;have htl:=zbZ B K _ hG2.out hk0 t ht ow3 w3 hW3;replace hW3:=hid hW3;replace htl:=hid htl;go_wp2_with fail
  refine htl.out.mono ?_;rintro e w4⟨rfl,ow4,hs4,tv4,lp4,hI4⟩;have hst4:=hst3.trans hs4;have kO4:=kO3.kept (hs4.block kO3.lt (by rw [om3];exact zj ht));have cO4:=kO4.cell;have om4:ow4 w.heap.size=[]:=(hs4.agree _ kO3.lt).trans om3;clear cO;replace hI4:=hid hI4;go_wp2;go_ret
  exact⟨by rw [hdo.out];rfl,ow4,hst4,by rw [hdo.out];exact⟨_,_,hI4.out⟩⟩
 ·have hka2:=λW=>hka.out W
  simp only [show(!(decide (3<=(k:Int))&& decide ((k:Int)<=6)))=true by simp;omega] at hka2;have hnd2:=λW hW=>hnd.out W hW
  have hi':=hi (by omega);simp only [show(decide (0<=nod)&& decide (nod<(S.nodes.length:Int)))=true by simp;omega] at hnd2;replace hka2:=hid hka2;replace hnd2:=hid hnd2;replace hdo:=hid hdo;clear hi hi' h36
  go_enter func13,ntmps13
  go_wp2_with fail
  rw [← hw1];clear hw1;refine(hni.out).mono ?_;rintro e w2⟨rfl,hw2⟩;obtain rfl:=hw2.symm;go_wp2_with fail
  refine zd [O 0,O 1,O 2,O 3,O 4,O 5,O 6,O 7,O 8,O 9,O 10,O 11] none (λw'=>w'.cell? ⟨B,5,none⟩=some (.map (some K.dm))/\Blk w' w.heap.size #[.int .i64 (k:Nat),.int .i64 nod,.int .i64 A,.int .i64 bit,.int .u32 (msk:Nat),.string (bs str)] 37/\(Instr.lookup 63 (.map (some K.dm)) (.int .i64 (k:Nat)) true).run prog w'=.ok (.tuple #[.func (.func fd) #[] #[.pointer (some ⟨K.bx,0,none⟩)],.bool true]) w'/\True) (by kernel_rfl) (by kernel_rfl) ⟨c5,kO.drew,hlk2.out _ hdm,trivial⟩ ?_
  (repeat (refine za (v:=?_) rfl rfl (λw' h=>?_) (λK k=>?_);rotate_left;obtain⟨f1,f2,f3,_⟩:=h;have e2:=f2.cell;(try have e3:=f3.cell);go_simp;(try with_reducible rfl);go_simp;refine k _ ?_;clear k K))
  refine ze ?_;have cO:=kO.cell;go_wp2_with fail
  refine(hka2.out _).mono ?_;rintro e w2⟨rfl,hw2⟩;obtain rfl:=hw2.symm;go_wp2_with fail
  refine(hnd2.out _ ((zk.loc B K tv lp S t).below hI1.out (zo (N2 _ _)))).mono ?_;rintro e w2⟨rfl,hw2⟩;obtain rfl:=hw2.symm;go_wp2_with fail
  refine hdc.out.mono ?_;rintro e w3⟨rfl,ow3,hs3,hW3⟩;have hst3:zq t ow w ow3 w3:=zq.wrap hb1 (by rw [← how.out];exact(zq.drew _ _ _).trans hs3);have kO3:=kO.drew.kept (hs3.block kO.lt (by rw [hom];exact zj ht));have om3:ow3 w.heap.size=[]:=(hs3.agree _ kO.lt).trans hom;have htl:=zbZ B K _ hG2.out hk0 t ht ow3 w3 hW3;replace hW3:=hid hW3;replace htl:=hid htl;go_wp2_with fail
  refine htl.out.mono ?_;rintro e w4⟨rfl,ow4,hs4,tv4,lp4,hI4⟩;have hst4:=hst3.trans hs4;have kO4:=kO3.kept (hs4.block kO3.lt (by rw [om3];exact zj ht));have cO4:=kO4.cell;have om4:ow4 w.heap.size=[]:=(hs4.agree _ kO3.lt).trans om3;clear cO;have hd2:=hdo.out
  by_cases h1:k=1
  ·have tk:((k:Int)==1)=true:=by simp;omega
   by_cases h0:er=0
   ·have te:(er !=0)=false:=by simpa using h0
    rw [if_neg (by simp [h0])] at hd2;clear hdo h0 h1 hk;have hdo:=hid hd2;clear hd2;replace hI4:=hid hI4;go_wp2;go_ret
    exact⟨by rw [hdo.out];rfl,ow4,hst4,by rw [hdo.out];exact⟨_,_,hI4.out⟩⟩
   ·have te:(er !=0)=true:=by simpa using h0
    rw [if_pos ⟨by omega,h0⟩] at hd2;clear hdo h0 h1 hk;have hdo:=hid hd2;clear hd2;have hI4d:=(zk.loc B K tv4 lp4 _ t).below hI4 (zo (N2 _ _));obtain⟨sa,sc,W7,hrun,cB7,fB7,lB7,hkp,ow8,hs8,hW8⟩:=zdt hI4d (i:=nod) (by have:=hG4.out.traceLe;omega);have c6:w4.drew.cell? ⟨B,6,none⟩=some tv4:=hI4d.blk.cell 6;replace hI4:=hid hI4;replace hI4d:=hid hI4d;replace hrun:=hid hrun;have kO7:Blk W7 w.heap.size #[.int .i64 (k:Nat),.int .i64 nod,.int .i64 A,.int .i64 bit,.int .u32 (msk:Nat),.string (bs str)] 37:=kO4.kept (hkp _ kO4.lt om4);replace hkp:=hid hkp;replace hW8:=hid hW8;replace hs8:=hid hs8;go_wp2_with fail
    refine zd [O 0,O 1,O 2,O 3,O 4,O 5,O 6,E 7,E 8,E 9,O 10,O 11,E 12] (some 12) (λw'=>w'.cell? ⟨B,6,none⟩=some tv4/\Blk w' w.heap.size #[.int .i64 (k:Nat),.int .i64 nod,.int .i64 A,.int .i64 bit,.int .u32 (msk:Nat),.string (bs str)] 37/\True) (by kernel_rfl) (by kernel_rfl) ⟨c6,kO4.drew,trivial⟩ ?_
    (repeat (refine za (v:=?_) rfl rfl (λw' h=>?_) (λK k=>?_);rotate_left;obtain⟨f1,f2,f3,_⟩:=h;(try have e1:=f1.cell);(try have e2:=f2.cell);(try have e3:=f3.cell);go_simp;(try with_reducible rfl);go_simp;refine k _ ?_;clear k K))
    refine zc rfl (λJ hJ=>?_);go_wp2;refine hJ.out _ _ (λ_=>⟨c6,kO4.drew,trivial⟩) ?_;clear hJ J;refine zc rfl (λJ hJ=>?_);go_wp2;refine hJ.out _ _ (λ_=>⟨jz (w:=w4) c6 _,(kO4.alloc _).drew,trivial⟩) ?_;clear hJ J;refine zc rfl (λJ hJ=>?_);refine zw rfl _ _ _ rfl rfl rfl hrun.out ?_;unfold wpList;refine hJ.out _ _ (λ_=>⟨cB7,kO7,trivial⟩) ?_;clear hJ J
    (repeat (refine za (v:=?_) rfl rfl (λw' h=>?_) (λK k=>?_);rotate_left;obtain⟨f1,f2,f3,_⟩:=h;(try have e1:=f1.cell);(try have e2:=f2.cell);(try have e3:=f3.cell);go_simp;(try with_reducible rfl);go_simp;refine k _ ?_;clear k K))
    refine zc rfl (λJ hJ=>?_);go_wp2;refine hJ.out _ _ (λhh=>absurd rfl hh) ?_;clear hJ J;refine ze ?_;go_wp2;go_ret
    exact⟨by rw [hdo.out];rfl,ow8,(hst4.trans (zq.drew _ _ _)).trans hs8.out,by rw [hdo.out];exact hW8.out⟩
  ·have tk:((k:Int)==1)=false:=by simp;omega
   rw [if_neg (by omega)] at hd2;clear hdo h1 hk;have hdo:=hid hd2;clear hd2;replace hI4:=hid hI4;go_wp2;go_ret
   exact⟨by rw [hdo.out];rfl,ow4,hst4,by rw [hdo.out];exact⟨_,_,hI4.out⟩⟩
theorem zkZ(hG:zu v k0 L S)(hk0:k0<=100000000)(hL:L<=3000000000)(hv:known v=true)(ht:t≠ [])(o:OpD)(ho:zkX o)(hk:zbO o.kind)(hi:o.kind≠3->0<=o.node/\o.node<S.nodes.length)(h:zL B K S t ow w)(he:jE w a)(hge:ow 2=[]):
 Calls prog 13 #[.pointer (some ⟨B,0,none⟩),opV o] w (xZ B K (doW (zt v) S o).1 t ow w (.int .i64 (doW (zt v) S o).2)):=by
 have hk':=hk;unfold zbO at hk';have hi':¬(3<=o.kind/\o.kind<=6)->0<=o.node/\o.node<S.nodes.length:=λhn=>hi (by omega)
 exact zji hk0 ht o (hG.deedA hL o ho.len hk (λh3=>by have:=hi h3;omega)) (λow w h he hge=>zhL hG hL hv ht o ho _ (by omega) (by omega) hi' h he hge) o.kind.toNat (by omega) (by omega) hi' h he hge
