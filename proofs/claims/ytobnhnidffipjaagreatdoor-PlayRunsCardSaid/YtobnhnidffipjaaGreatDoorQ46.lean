/- PARTS OF THE PROOF. -/
import Derived.Test.YtobnhnidffipjaaGreatDoorQ45
set_option maxRecDepth 8000
set_option maxHeartbeats 4000000
open Go.Proofs.Tryz
namespace Go.Proofs.YtobnhnidffipjaaGreatDoor
section
open Go Go.RowKit Go.Shelf Go.Extern.Stop Go.Stop Go.Extern
attribute [local go_sem] Oper.semAt_some zw zn
variable {B:Nat}{K:WK}{S:zj}{v:Int}{k0 L:Nat}{t:List Nat}{ow:Own}{a:Addr}{w:World}
theorem zk2(hG:zr v k0 L S)(o:OpD)(i:Nat)(hn:o.node=i)(hi:i<S.nodes.length)(h:zy B K S t ow w):Calls prog 63 #[opV o,.pointer (some ⟨K.bx,0,none⟩)] w (vi B K (setNode S i (zcu (zt S i) o.a).1) t ow w (.int .i64 (zcu (zt S i) o.a).2)):=by
 obtain⟨knd,nod,A,bit,msk,str⟩:=o;simp only at hn;subst hn;unfold opV;have hi16:i<16:=by have:=hG.n0;omega
 have y0:(0:Int)<=(i:Int):=by omega
 have y1:(i:Int)<(S.nodes.length:Int):=by omega
 have hb1:Below w.heap.size w (w.alloc (.cells #[.int .i64 knd,.int .i64 (i:Nat),.int .i64 A,.int .i64 bit,.int .u32 (msk:Nat),.string (bs str)] 39)).drew:=zo (zg (N2 _ _) _);have hW1:=(zy.loc B K S t).cut h hb1;have kO:Blk (w.alloc (.cells #[.int .i64 knd,.int .i64 (i:Nat),.int .i64 A,.int .i64 bit,.int .u32 (msk:Nat),.string (bs str)] 39)) w.heap.size #[.int .i64 knd,.int .i64 (i:Nat),.int .i64 A,.int .i64 bit,.int .u32 (msk:Nat),.string (bs str)] 39:=Blk.new rfl;obtain⟨tv,lp,hI1⟩:=hW1;have hom:(ow.cut w) w.heap.size=[]:=Own.cut_new (N0 _);obtain⟨b,hnb,px,sb,lb,pb,av,hN⟩:=hI1.node hi16 (hG.node hi).1;have hnc:=hI1.nodeCell hnb;have eX:=hI1.does.2.2.2.cell 0;have cB:(w.alloc (.cells #[.int .i64 knd,.int .i64 (i:Nat),.int .i64 A,.int .i64 bit,.int .u32 (msk:Nat),.string (bs str)] 39)).drew.cell? ⟨B,0,none⟩=some (.slice (some ⟨K.nb,0,none⟩) S.nodes.length K.nc):=hI1.blk.cell 0;have hc:=ziJ A _ hN;replace hc:=G hc;replace hI1:=G hI1;replace hN:=G hN;replace hnb:=G hnb
 go_enter func63,ntmps63
 go_wp2_with fail
 refine vg [O 0,O 1,O 2,O 3,O 4,O 5,O 6,O 7,O 8,O 9,E 10,O 11] (some 10) (λw'=>w'.cell? ⟨K.bx,0,none⟩=some (.pointer (some ⟨B,0,none⟩))/\w'.cell? ⟨B,0,none⟩=some (.slice (some ⟨K.nb,0,none⟩) S.nodes.length K.nc)/\w'.cell? ⟨K.nb,i,none⟩=some (.pointer (some ⟨b,0,none⟩))/\Blk w' w.heap.size #[.int .i64 knd,.int .i64 (i:Nat),.int .i64 A,.int .i64 bit,.int .u32 (msk:Nat),.string (bs str)] 39/\True) (by kernel_rfl) (by kernel_rfl) ⟨eX,cB,hnc,kO,trivial⟩ ?_
 (repeat (refine zA (v:=?_) rfl rfl (λw' h=>?_) (λK k=>?_);rotate_left;obtain⟨f1,f2,f3,f4,_⟩:=h;have e4:=f4.cell;go_simp;(try with_reducible rfl);go_simp;refine k _ ?_;clear k K))
 refine vr rfl (λJ hJ=>?_);go_wp2_with fail
 refine hc.out.mono ?_;rintro e w2⟨rfl,ow2,hs2,hN2⟩;go_wp2;refine hJ.out _ _ ?_;clear hJ J
 (repeat (refine zA (v:=?_) rfl rfl (λw' h=>?_) (λK k=>?_);rotate_left;(focus (clear h;go_simp;(try with_reducible rfl)));(go_simp;refine k _ ?_;clear k K)))
 refine zY ?_;go_wp2;go_ret
 exact⟨rfl,ow2,zq.wrap hb1 (hs2.mono (Sub.child t i)),tv,lp,hI1.out.setNode hi16 hnb.out hs2 hN2⟩
theorem zkz(hG:zr v k0 L S)(o:OpD)(i:Nat)(hn:o.node=i)(hi:i<S.nodes.length)(h:zy B K S t ow w):Calls prog 67 #[opV o,.pointer (some ⟨K.bx,0,none⟩)] w (vi B K (setNode S i (Z1 (zt S i) o.a).1) t ow w (.int .i64 (Z1 (zt S i) o.a).2)):=by
 obtain⟨knd,nod,A,bit,msk,str⟩:=o;simp only at hn;subst hn;unfold opV;have hi16:i<16:=by have:=hG.n0;omega
 have y0:(0:Int)<=(i:Int):=by omega
 have y1:(i:Int)<(S.nodes.length:Int):=by omega
 have hb1:Below w.heap.size w (w.alloc (.cells #[.int .i64 knd,.int .i64 (i:Nat),.int .i64 A,.int .i64 bit,.int .u32 (msk:Nat),.string (bs str)] 39)).drew:=zo (zg (N2 _ _) _);have hW1:=(zy.loc B K S t).cut h hb1;have kO:Blk (w.alloc (.cells #[.int .i64 knd,.int .i64 (i:Nat),.int .i64 A,.int .i64 bit,.int .u32 (msk:Nat),.string (bs str)] 39)) w.heap.size #[.int .i64 knd,.int .i64 (i:Nat),.int .i64 A,.int .i64 bit,.int .u32 (msk:Nat),.string (bs str)] 39:=Blk.new rfl;obtain⟨tv,lp,hI1⟩:=hW1;have hom:(ow.cut w) w.heap.size=[]:=Own.cut_new (N0 _);obtain⟨b,hnb,px,sb,lb,pb,av,hN⟩:=hI1.node hi16 (hG.node hi).1;have hnc:=hI1.nodeCell hnb;have eX:=hI1.does.2.2.2.cell 0;have cB:(w.alloc (.cells #[.int .i64 knd,.int .i64 (i:Nat),.int .i64 A,.int .i64 bit,.int .u32 (msk:Nat),.string (bs str)] 39)).drew.cell? ⟨B,0,none⟩=some (.slice (some ⟨K.nb,0,none⟩) S.nodes.length K.nc):=hI1.blk.cell 0;have hc:=zhg b _ _ _ A _ hN (hG.eraLen hi);replace hc:=G hc;replace hI1:=G hI1;replace hN:=G hN;replace hnb:=G hnb
 go_enter func67,ntmps67
 go_wp2_with fail
 refine vg [O 0,O 1,O 2,O 3,O 4,O 5,O 6,O 7,O 8,O 9,E 10,O 11] (some 10) (λw'=>w'.cell? ⟨K.bx,0,none⟩=some (.pointer (some ⟨B,0,none⟩))/\w'.cell? ⟨B,0,none⟩=some (.slice (some ⟨K.nb,0,none⟩) S.nodes.length K.nc)/\w'.cell? ⟨K.nb,i,none⟩=some (.pointer (some ⟨b,0,none⟩))/\Blk w' w.heap.size #[.int .i64 knd,.int .i64 (i:Nat),.int .i64 A,.int .i64 bit,.int .u32 (msk:Nat),.string (bs str)] 39/\True) (by kernel_rfl) (by kernel_rfl) ⟨eX,cB,hnc,kO,trivial⟩ ?_
 (repeat (refine zA (v:=?_) rfl rfl (λw' h=>?_) (λK k=>?_);rotate_left;obtain⟨f1,f2,f3,f4,_⟩:=h;have e4:=f4.cell;go_simp;(try with_reducible rfl);go_simp;refine k _ ?_;clear k K))
 refine vr rfl (λJ hJ=>?_);go_wp2_with fail
 refine hc.out.mono ?_;rintro e w2⟨rfl,ow2,hs2,hN2⟩;go_wp2;refine hJ.out _ _ ?_;clear hJ J
 (repeat (refine zA (v:=?_) rfl rfl (λw' h=>?_) (λK k=>?_);rotate_left;(focus (clear h;go_simp;(try with_reducible rfl)));(go_simp;refine k _ ?_;clear k K)))
 refine zY ?_;go_wp2;go_ret
 exact⟨rfl,ow2,zq.wrap hb1 (hs2.mono (Sub.child t i)),tv,lp,hI1.out.setNode hi16 hnb.out hs2 hN2⟩
end
section
open Go Go.RowKit Go.Shelf Go.Extern.Stop Go.Stop Go.Extern
attribute [local go_sem] Oper.semAt_some zw zn
theorem zk.delLead {B:Nat}{K:WK}{tv:Value}{lp:Nat->Option Nat}{S:zj}{t:List Nat}{ow:Own}{W:World}(h:zk B K tv lp S t ow W)(hnd:(S.leads.map (·.1)).Nodup){i:Nat}
 {ps:List (Int×Value)} {o:Obj} (hd:(ps.map (·.1)).Nodup) (hps:∀j:Nat,zJ (j:Int) ps=(lp j).map λb=>.pointer (some ⟨b,0,none⟩)) (hM:zU (W.putObj K.lm o) K.lm Yx (del (i:Int) ps)):
 zq (t++ [17]) ow W ow (W.putObj K.lm o)/\zk B K tv (λj=>if j=i then none else lp j) {S with leads:=del (i:Int) S.leads} t ow (W.putObj K.lm o):=by
 have hho:=h.leadsM.1;have hst:zq (t++ [17]) ow W ow (W.putObj K.lm o):=zq.putObj W K.lm o (by rw [hho];exact Sub.rfl' _);refine⟨hst,h.blk.kept (hst.block h.blk.lt (qu t 17 h.own)),h.own,λj=>?_⟩
 by_cases hj:j=17
 ·subst hj
  refine⟨hho,_,zbK _ hd,hM,λj=>?_⟩;rw [J4 _ _ hd]
  by_cases hji:j=i
  ·subst hji;simp
  ·rw [if_neg (by omega),hps];simp only [if_neg hji]
 by_cases hji:j=i+32
 ·subst hji
  unfold vN;rw [if_neg (by omega),if_neg (by omega),if_neg (by omega),if_neg (by omega),if_neg (by omega),if_neg (by omega),if_neg (by omega),if_neg (by omega),if_neg (by omega),Nat.add_sub_cancel];simp only [if_true,J4 _ _ hnd]
 ·have hw:vN B K tv (λj=>if j=i then none else lp j) {S with leads:=del (i:Int) S.leads} t j=vN B K tv lp S t j:=by
   unfold vN;simp only [if_neg hj]
   by_cases hj32:j<32
   ·simp only [if_pos hj32]
   ·simp only [if_neg (show¬j - 32=i by omega),J4 _ _ hnd,if_neg (show¬((j - 32:Nat):Int)=(i:Int)by omega)]
  rw [hw];exact(Zo B K tv lp S t j).step (h.part j) hst (zM t (Ne.symm hj))
variable {B:Nat}{K:WK}{S:zj}{v:Int}{k0 L:Nat}{t:List Nat}{ow:Own}{a:Addr}{w:World}
theorem zk3(hG:zr v k0 L S)(o:OpD)(i:Nat)(hn:o.node=i)(hi:i<S.nodes.length)(h:zy B K S t ow w):Calls prog 61 #[opV o,.pointer (some ⟨K.bx,0,none⟩)] w (vi B K (setNode {S with leads:=del (i:Int) S.leads} i (xN (zt S i)).1) t ow w (.int .i64 (xN (zt S i)).2)):=by
 obtain⟨knd,nod,A,bit,msk,str⟩:=o;simp only at hn;subst hn;unfold opV;have hi16:i<16:=by have:=hG.n0;omega
 have y0:(0:Int)<=(i:Int):=by omega
 have y1:(i:Int)<(S.nodes.length:Int):=by omega
 have hb1:Below w.heap.size w (w.alloc (.cells #[.int .i64 knd,.int .i64 (i:Nat),.int .i64 A,.int .i64 bit,.int .u32 (msk:Nat),.string (bs str)] 39)).drew:=zo (zg (N2 _ _) _);have hW1:=(zy.loc B K S t).cut h hb1;have kO:Blk (w.alloc (.cells #[.int .i64 knd,.int .i64 (i:Nat),.int .i64 A,.int .i64 bit,.int .u32 (msk:Nat),.string (bs str)] 39)).drew w.heap.size #[.int .i64 knd,.int .i64 (i:Nat),.int .i64 A,.int .i64 bit,.int .u32 (msk:Nat),.string (bs str)] 39:=(Blk.new rfl).drew;obtain⟨tv,lp,hI1⟩:=hW1;have hom:(ow.cut w) w.heap.size=[]:=Own.cut_new (N0 _);obtain⟨w1,hw1⟩:∃x,x=w.alloc (.cells #[.int .i64 knd,.int .i64 (i:Nat),.int .i64 A,.int .i64 bit,.int .u32 (msk:Nat),.string (bs str)] 39):=⟨_,rfl⟩;obtain⟨ow1,how⟩:∃x,x=ow.cut w:=⟨_,rfl⟩;rw [← how] at hI1 hom;replace how:=G how;rw [← hw1] at hb1 kO hI1;have eX:=hI1.does.2.2.2.cell 0;have hnl:S.nodes.length=S.nodes.length:=rfl;have cB:World.cell? _ ⟨B,2,none⟩=some (.map (some K.lm)):=(hI1).blk.cell 2;obtain⟨hho,ps,hd,hM,hps⟩:=(hI1).leadsM;obtain⟨od,hdel,hM2⟩:=hM.delete zam Tryz.underlying67 #[67,120] 0 rfl (i:Int);unfold Yx at hdel;obtain⟨hs2,hI2⟩:=(hI1).delLead hG.leadsN hd hps hM2;have kO2:=(kO).putObj (λe=>by rw [e] at hom;rw [hho] at hom;simp at hom) od;replace hps:=G hps;replace hM:=G hM;replace hM2:=G hM2;replace hho:=G hho;obtain⟨b,hnb,px,sb,lb,pb,av,hN⟩:=(hI2).node hi16 (hG.node hi).1;have hnc:=(hI2).nodeCell hnb;have eX2:=(hI2).does.2.2.2.cell 0;have cB2:World.cell? _ ⟨B,0,none⟩=some (.slice (some ⟨K.nb,0,none⟩) S.nodes.length K.nc):=(hI2).blk.cell 0;have hN':=(zx.loc b px sb lb pb av (zt S i) (t++ [i])).below hN (zo (N2 _ _));have hc:=zfn _ hN';have hI2':=(zk.loc B K tv _ _ t).below hI2 (zo (N2 _ _));replace hc:=G hc;replace hI2':=G hI2';replace hI1:=G hI1;replace hN:=G hN;replace hN':=G hN';replace hnb:=G hnb
 go_enter func61,ntmps61
 go_wp2_with fail
 rw [← hw1];clear hw1;refine zd [O 0,O 1,O 2,O 3,O 4,O 5,E 6,E 7] none (λw'=>w'.cell? ⟨K.bx,0,none⟩=some (.pointer (some ⟨B,0,none⟩))/\w'.cell? ⟨B,2,none⟩=some (.map (some K.lm))/\Blk w' w.heap.size #[.int .i64 knd,.int .i64 (i:Nat),.int .i64 A,.int .i64 bit,.int .u32 (msk:Nat),.string (bs str)] 39/\True) (by kernel_rfl) (by kernel_rfl) ⟨eX,cB,kO,trivial⟩ ?_
 (repeat (refine za (v:=?_) rfl rfl (λw' h=>?_) (λK k=>?_);rotate_left;obtain⟨f1,f2,f3,f4,_⟩:=h;(try have e1:=f1.cell);(try have e2:=f2.cell);(try have e3:=f3.cell);(try have e4:=f4.cell);go_simp;(try with_reducible rfl);go_simp;refine k _ ?_;clear k K))
 refine zc rfl (λJ hJ=>?_);go_wp2;refine hJ.out _ _ (λ_=>⟨eX,cB,kO,trivial⟩) ?_;clear hJ J;refine zc rfl (λJ hJ=>?_);refine ya rfl _ _ _ _ rfl rfl rfl hdel ?_;unfold wpList;refine hJ.out _ _ (λ_=>⟨eX2,hI2.blk.cell 2,kO2,trivial⟩) ?_;clear hJ J;refine ze ?_;go_wp2_with fail
 refine vg [O 0,O 1,O 2,O 3,O 4,O 5,O 6,O 7,E 8,O 9] (some 8) (λw'=>w'.cell? ⟨K.bx,0,none⟩=some (.pointer (some ⟨B,0,none⟩))/\w'.cell? ⟨B,0,none⟩=some (.slice (some ⟨K.nb,0,none⟩) S.nodes.length K.nc)/\w'.cell? ⟨K.nb,i,none⟩=some (.pointer (some ⟨b,0,none⟩))/\Blk w' w.heap.size #[.int .i64 knd,.int .i64 (i:Nat),.int .i64 A,.int .i64 bit,.int .u32 (msk:Nat),.string (bs str)] 39/\True) (by kernel_rfl) (by kernel_rfl) ⟨eX2,cB2,hnc,kO2,trivial⟩ ?_
 (repeat (refine zA (v:=?_) rfl rfl (λw' h=>?_) (λK k=>?_);rotate_left;obtain⟨f1,f2,f3,f4,_⟩:=h;have e4:=f4.cell;go_simp;(try with_reducible rfl);go_simp;refine k _ ?_;clear k K))
 refine vr rfl (λJ hJ=>?_);go_wp2_with fail
 refine hc.out.mono ?_;rintro e w3⟨rfl,ow3,hs3,hN3⟩;go_wp2;refine hJ.out _ _ ?_;clear hJ J
 (repeat (refine zA (v:=?_) rfl rfl (λw' h=>?_) (λK k=>?_);rotate_left;(focus (clear h;go_simp;(try with_reducible rfl)));(go_simp;refine k _ ?_;clear k K)))
 refine zY ?_;go_wp2;go_ret
 exact⟨rfl,ow3,zq.wrap hb1 (by rw [← how.out];exact((hs2.mono (Sub.child t 17)).trans (zq.drew _ _ _)).trans (hs3.mono (Sub.child t i))),tv,_,hI2'.out.setNode hi16 hnb.out hs3 hN3⟩
theorem zk4(hG:zr v k0 L S)(hv:known v=true)(ht:t≠ [])(o:OpD)(i:Nat)(hn:o.node=i)(hi:i<S.nodes.length)(h:zy B K S t ow w)(he:jA w a)(hge:ow 2=[]):Calls prog 65 #[opV o,.pointer (some ⟨K.bx,0,none⟩)] w (vi B K (setNode {ZV S i with leads:=del (i:Int) S.leads} i (yN (zt S i) (zp v))) t ow w (.int .i64 0)):=by
 obtain⟨knd,nod,A,bit,msk,str⟩:=o;simp only at hn;subst hn;unfold opV;have hi16:i<16:=by have:=hG.n0;omega
 have y0:(0:Int)<=(i:Int):=by omega
 have y1:(i:Int)<(S.nodes.length:Int):=by omega
 have hb1:Below w.heap.size w (w.alloc (.cells #[.int .i64 knd,.int .i64 (i:Nat),.int .i64 A,.int .i64 bit,.int .u32 (msk:Nat),.string (bs str)] 39)).drew:=zo (zg (N2 _ _) _);have hW1:=(zy.loc B K S t).cut h hb1;have kO:Blk (w.alloc (.cells #[.int .i64 knd,.int .i64 (i:Nat),.int .i64 A,.int .i64 bit,.int .u32 (msk:Nat),.string (bs str)] 39)).drew w.heap.size #[.int .i64 knd,.int .i64 (i:Nat),.int .i64 A,.int .i64 bit,.int .u32 (msk:Nat),.string (bs str)] 39:=(Blk.new rfl).drew;obtain⟨tv,lp,hI1⟩:=hW1;have hom:(ow.cut w) w.heap.size=[]:=Own.cut_new (N0 _);obtain⟨w1,hw1⟩:∃x,x=w.alloc (.cells #[.int .i64 knd,.int .i64 (i:Nat),.int .i64 A,.int .i64 bit,.int .u32 (msk:Nat),.string (bs str)] 39):=⟨_,rfl⟩;obtain⟨ow1,how⟩:∃x,x=ow.cut w:=⟨_,rfl⟩;rw [← how] at hI1 hom;replace how:=G how;rw [← hw1] at hb1 kO hI1;have eX:=hI1.does.2.2.2.cell 0;have hnl:S.nodes.length=S.nodes.length:=rfl;have cB1:World.cell? w1.drew ⟨B,1,none⟩=some (.slice (some ⟨K.sb,0,none⟩) S.nodes.length S.nodes.length):=hI1.blk.cell 1;obtain⟨os0,ol0,hs0⟩:=hI1.srow;have g3:World.cell? w1.drew ⟨K.sb,i*5+3,none⟩=some (.bool (jG S i).stale):=hs0.cellL (jt (hG.seat hi) (j:=3) (by decide));have f3:∀o,World.frozen? w1.drew ⟨K.sb,o,none⟩=false:=hs0.frozen;have l3:K.sb<w1.drew.heap.size:=hs0.lt;obtain⟨hsA,hIA0⟩:=hI1.setSeat (v:=.bool true) (s':={jG S i with stale:=true}) (hG.seat hi) (j:=3) (by decide) rfl;have kOA:Blk (w1.drew.setCell ⟨K.sb,i*5+3,none⟩ (.bool true)) w.heap.size #[.int .i64 knd,.int .i64 (i:Nat),.int .i64 A,.int .i64 bit,.int .u32 (msk:Nat),.string (bs str)] 39:=kO.other (p:=⟨K.sb,i*5+3,none⟩) (λe=>by have e':w.heap.size=K.sb:=e;rw [e',os0] at hom;simp at hom) _;have hIA:=(zk.loc B K tv lp _ t).below hIA0 (zo (N2 _ _));have hstA:zq t ow1 w1.drew ow1 (w1.drew.setCell ⟨K.sb,i*5+3,none⟩ (.bool true)).drew:=(hsA.mono (Sub.child t 21)).trans (zq.drew _ _ _);have eXA:=hIA.does.2.2.2.cell 0;have kOA':Blk (w1.drew.setCell ⟨K.sb,i*5+3,none⟩ (.bool true)).drew w.heap.size #[.int .i64 knd,.int .i64 (i:Nat),.int .i64 A,.int .i64 bit,.int .u32 (msk:Nat),.string (bs str)] 39:=kOA.drew;replace hs0:=G hs0;replace hIA0:=G hIA0;replace hI1:=G hI1;have cB:World.cell? _ ⟨B,2,none⟩=some (.map (some K.lm)):=(hIA).blk.cell 2;obtain⟨hho,ps,hd,hM,hps⟩:=(hIA).leadsM;obtain⟨od,hdel,hM2⟩:=hM.delete zam Tryz.underlying67 #[67,120] 0 rfl (i:Int);unfold Yx at hdel;obtain⟨hs2,hI2⟩:=(hIA).delLead hG.leadsN hd hps hM2;have kO2:=(kOA').putObj (λe=>by rw [e] at hom;rw [hho] at hom;simp at hom) od;replace hps:=G hps;replace hM:=G hM;replace hM2:=G hM2;replace hho:=G hho;obtain⟨b,hnb,px,sb,lb,pb,av,hN⟩:=(hI2).node hi16 (hG.node hi).1;have hnc:=(hI2).nodeCell hnb;have eX2:=(hI2).does.2.2.2.cell 0;have cB2:World.cell? _ ⟨B,0,none⟩=some (.slice (some ⟨K.nb,0,none⟩) S.nodes.length K.nc):=(hI2).blk.cell 0;have hN':=(zx.loc b px sb lb pb av (zt S i) (t++ [i])).below hN (zo (N2 _ _));have hI2':=(zk.loc B K tv _ _ t).below hI2 (zo (N2 _ _));have hstB:zq t ow w ow1 ((w1.drew.setCell ⟨K.sb,i*5+3,none⟩ (.bool true)).drew.putObj K.lm od).drew:=zq.wrap hb1 (by rw [← how.out];exact(hstA.trans (hs2.mono (Sub.child t 17))).trans (zq.drew _ _ _));have hel:=he.lt;have hc:=zbt a b _ _ (by simp) _ _ hN' (he.step ht hstB hge) (by rw [how.out,Own.cut_old hel];exact hge) (by rw [show(zt S i).version=v from(hG.node hi).2.ver];exact hv) (by have:=(hG.node hi).2.ok.bounds.1;exact this);rw [show(zt S i).version=v from(hG.node hi).2.ver] at hc;replace hc:=G hc;replace hI2':=G hI2';replace hN:=G hN;replace hN':=G hN';replace hnb:=G hnb
 go_enter func65,ntmps65
 go_wp2_with fail
 rw [← hw1];clear hw1;refine zd [O 0,O 1,O 2,O 3,O 4,O 5,O 6,O 7,E 8] (some 8) (λw'=>w'.cell? ⟨K.bx,0,none⟩=some (.pointer (some ⟨B,0,none⟩))/\w'.cell? ⟨B,1,none⟩=some (.slice (some ⟨K.sb,0,none⟩) S.nodes.length S.nodes.length)/\Blk w' w.heap.size #[.int .i64 knd,.int .i64 (i:Nat),.int .i64 A,.int .i64 bit,.int .u32 (msk:Nat),.string (bs str)] 39/\True) (by kernel_rfl) (by kernel_rfl) ⟨eX,cB1,kO,trivial⟩ ?_
 (repeat (refine za (v:=?_) rfl rfl (λw' h=>?_) (λK k=>?_);rotate_left;obtain⟨f1,f2,f3,f4,_⟩:=h;(try have e1:=f1.cell);(try have e2:=f2.cell);(try have e3:=f3.cell);(try have e4:=f4.cell);go_simp;(try with_reducible rfl);go_simp;refine k _ ?_;clear k K))
 refine zc rfl (λJ hJ=>?_);go_wp2;refine hJ.out _ _ (λhh=>absurd rfl hh) ?_;clear hJ J;refine ze ?_;go_wp2_with fail
 refine zd [O 0,O 1,O 2,O 3,O 4,O 5,E 6,E 7] none (λw'=>w'.cell? ⟨K.bx,0,none⟩=some (.pointer (some ⟨B,0,none⟩))/\w'.cell? ⟨B,2,none⟩=some (.map (some K.lm))/\Blk w' w.heap.size #[.int .i64 knd,.int .i64 (i:Nat),.int .i64 A,.int .i64 bit,.int .u32 (msk:Nat),.string (bs str)] 39/\True) (by kernel_rfl) (by kernel_rfl) ⟨eXA,cB,kOA',trivial⟩ ?_
 (repeat (refine za (v:=?_) rfl rfl (λw' h=>?_) (λK k=>?_);rotate_left;obtain⟨f1,f2,f3,f4,_⟩:=h;(try have e1:=f1.cell);(try have e2:=f2.cell);(try have e3:=f3.cell);(try have e4:=f4.cell);go_simp;(try with_reducible rfl);go_simp;refine k _ ?_;clear k K))
 refine zc rfl (λJ hJ=>?_);go_wp2;refine hJ.out _ _ (λ_=>⟨eXA,cB,kOA',trivial⟩) ?_;clear hJ J;refine zc rfl (λJ hJ=>?_);refine ya rfl _ _ _ _ rfl rfl rfl hdel ?_;unfold wpList;refine hJ.out _ _ (λ_=>⟨eX2,hI2.blk.cell 2,kO2,trivial⟩) ?_;clear hJ J;refine ze ?_;go_wp2_with fail
 refine vg [O 0,O 1,O 2,O 3,O 4,O 5,O 6,O 7,E 8,O 9] (some 8) (λw'=>w'.cell? ⟨K.bx,0,none⟩=some (.pointer (some ⟨B,0,none⟩))/\w'.cell? ⟨B,0,none⟩=some (.slice (some ⟨K.nb,0,none⟩) S.nodes.length K.nc)/\w'.cell? ⟨K.nb,i,none⟩=some (.pointer (some ⟨b,0,none⟩))/\Blk w' w.heap.size #[.int .i64 knd,.int .i64 (i:Nat),.int .i64 A,.int .i64 bit,.int .u32 (msk:Nat),.string (bs str)] 39/\True) (by kernel_rfl) (by kernel_rfl) ⟨eX2,cB2,hnc,kO2,trivial⟩ ?_
 (repeat (refine zA (v:=?_) rfl rfl (λw' h=>?_) (λK k=>?_);rotate_left;obtain⟨f1,f2,f3,f4,_⟩:=h;have e4:=f4.cell;go_simp;(try with_reducible rfl);go_simp;refine k _ ?_;clear k K))
 refine vr rfl (λJ hJ=>?_);go_wp2_with fail
 refine hc.out.mono ?_;rintro e w3⟨rfl,ow3,hs3,hN3⟩;go_wp2;refine hJ.out _ _ ?_;clear hJ J
 (repeat (refine zA (v:=?_) rfl rfl (λw' h=>?_) (λK k=>?_);rotate_left;(focus (clear h;go_simp;(try with_reducible rfl)));(go_simp;refine k _ ?_;clear k K)))
 refine zY ?_;go_wp2;go_ret
 exact⟨rfl,ow3,hstB.trans (hs3.mono (Sub.child t i)),tv,_,hI2'.out.setNode hi16 hnb.out hs3 hN3⟩
end
section
open Go Go.RowKit Go.Shelf Go.Extern.Stop Go.Stop Go.Extern
attribute [local go_sem] Oper.semAt_some zw zn
variable {B:Nat}{K:WK}{S:zj}{v:Int}{k0 L:Nat}{t:List Nat}{ow:Own}{a:Addr}{w:World}
theorem zk5(hG:zr v k0 L S)(ht:t≠ [])(o:OpD)(ho:zhH o)(i:Nat)(hn:o.node=i)(hi:i<S.nodes.length)(h:zy B K S t ow w):Calls prog 49 #[opV o,.pointer (some ⟨K.bx,0,none⟩)] w (vi B K (setNode (ZV S i) i (jc (zt S i) o.s).1) t ow w (.int .i64 (jc (zt S i) o.s).2.2)):=by
 have hlen:=ho.len;clear ho;obtain⟨knd,nod,A,bit,msk,str⟩:=o;simp only at hn;subst hn;unfold opV;have hi16:i<16:=by have:=hG.n0;omega
 have y0:(0:Int)<=(i:Int):=by omega
 have y1:(i:Int)<(S.nodes.length:Int):=by omega
 have hb1:Below w.heap.size w (w.alloc (.cells #[.int .i64 knd,.int .i64 (i:Nat),.int .i64 A,.int .i64 bit,.int .u32 (msk:Nat),.string (bs str)] 39)).drew:=zo (zg (N2 _ _) _);have hW1:=(zy.loc B K S t).cut h hb1;have kO:Blk (w.alloc (.cells #[.int .i64 knd,.int .i64 (i:Nat),.int .i64 A,.int .i64 bit,.int .u32 (msk:Nat),.string (bs str)] 39)).drew w.heap.size #[.int .i64 knd,.int .i64 (i:Nat),.int .i64 A,.int .i64 bit,.int .u32 (msk:Nat),.string (bs str)] 39:=(Blk.new rfl).drew;obtain⟨tv,lp,hI1⟩:=hW1;have hom:(ow.cut w) w.heap.size=[]:=Own.cut_new (N0 _);obtain⟨w1,hw1⟩:∃x,x=w.alloc (.cells #[.int .i64 knd,.int .i64 (i:Nat),.int .i64 A,.int .i64 bit,.int .u32 (msk:Nat),.string (bs str)] 39):=⟨_,rfl⟩;obtain⟨ow1,how⟩:∃x,x=ow.cut w:=⟨_,rfl⟩;rw [← how] at hI1 hom;replace how:=G how;rw [← hw1] at hb1 kO hI1;have eX:=hI1.does.2.2.2.cell 0;have hnl:S.nodes.length=S.nodes.length:=rfl;simp only at hlen;have cB1:World.cell? w1.drew ⟨B,1,none⟩=some (.slice (some ⟨K.sb,0,none⟩) S.nodes.length S.nodes.length):=hI1.blk.cell 1;obtain⟨os0,ol0,hs0⟩:=hI1.srow;have g3:World.cell? w1.drew ⟨K.sb,i*5+3,none⟩=some (.bool (jG S i).stale):=hs0.cellL (jt (hG.seat hi) (j:=3) (by decide));have f3:∀o,World.frozen? w1.drew ⟨K.sb,o,none⟩=false:=hs0.frozen;have l3:K.sb<w1.drew.heap.size:=hs0.lt;obtain⟨hsA,hIA0⟩:=hI1.setSeat (v:=.bool true) (s':={jG S i with stale:=true}) (hG.seat hi) (j:=3) (by decide) rfl;have kOA:Blk (w1.drew.setCell ⟨K.sb,i*5+3,none⟩ (.bool true)) w.heap.size #[.int .i64 knd,.int .i64 (i:Nat),.int .i64 A,.int .i64 bit,.int .u32 (msk:Nat),.string (bs str)] 39:=kO.other (p:=⟨K.sb,i*5+3,none⟩) (λe=>by have e':w.heap.size=K.sb:=e;rw [e',os0] at hom;simp at hom) _;have hIA:=(zk.loc B K tv lp _ t).below hIA0 (zo (N2 _ _));have hstA:zq t ow1 w1.drew ow1 (w1.drew.setCell ⟨K.sb,i*5+3,none⟩ (.bool true)).drew:=(hsA.mono (Sub.child t 21)).trans (zq.drew _ _ _);have eXA:=hIA.does.2.2.2.cell 0;have kOA':Blk (w1.drew.setCell ⟨K.sb,i*5+3,none⟩ (.bool true)).drew w.heap.size #[.int .i64 knd,.int .i64 (i:Nat),.int .i64 A,.int .i64 bit,.int .u32 (msk:Nat),.string (bs str)] 39:=kOA.drew;replace hs0:=G hs0;replace hIA0:=G hIA0;replace hI1:=G hI1;obtain⟨wA,hwA⟩:∃x,x=(w1.setCell ⟨K.sb,i*5+3,none⟩ (.bool true)).drew.drew:=⟨_,rfl⟩;have hwA':(w1.drew.setCell ⟨K.sb,i*5+3,none⟩ (.bool true)).drew=wA:=by rw [hwA];rfl
 rw [hwA'] at hIA hstA kOA' eXA;clear hwA';obtain⟨b,hnb,px,sb,lb,pb,av,hN⟩:=(hIA).node hi16 (hG.node hi).1;have hnc:=(hIA).nodeCell hnb;have eX2:=(hIA).does.2.2.2.cell 0;have cB2:World.cell? _ ⟨B,0,none⟩=some (.slice (some ⟨K.nb,0,none⟩) S.nodes.length K.nc):=(hIA).blk.cell 0;have hstB:zq t ow w ow1 wA:=zq.wrap hb1 (by rw [← how.out];exact hstA);have omA:ow1 w.heap.size=[]:=hom;have hgk:=(hG.node hi).2.ok.2;have hgf:=(hG.node hi).2.few.1;have hcc:=λW ow' hW=>XP (px:=px) (sb:=sb) (lb:=lb) (pb:=pb) (av:=av) b (zt S i) (t++ [i]) (by simp) ow' str (by omega) W hW hgk (by omega)
 obtain⟨⟨m,⟨⟨mi,mc⟩,md⟩,er⟩,hbc⟩:∃q,jc (zt S i) str=q:=⟨_,rfl⟩;rw [hbc] at hcc;simp only [hbc];unfold zhh vz at hcc;simp only at hcc;replace hcc:=G hcc;replace hbc:=G hbc;replace hgk:=G hgk
 go_enter func49,ntmps49
 go_wp2_with fail
 rw [← hw1];clear hw1;refine zd [O 0,O 1,O 2,O 3,O 4,O 5,O 6,O 7,E 8] (some 8) (λw'=>w'.cell? ⟨K.bx,0,none⟩=some (.pointer (some ⟨B,0,none⟩))/\w'.cell? ⟨B,1,none⟩=some (.slice (some ⟨K.sb,0,none⟩) S.nodes.length S.nodes.length)/\Blk w' w.heap.size #[.int .i64 knd,.int .i64 (i:Nat),.int .i64 A,.int .i64 bit,.int .u32 (msk:Nat),.string (bs str)] 39/\True) (by kernel_rfl) (by kernel_rfl) ⟨eX,cB1,kO,trivial⟩ ?_
 (repeat (refine za (v:=?_) rfl rfl (λw' h=>?_) (λK k=>?_);rotate_left;obtain⟨f1,f2,f3,f4,_⟩:=h;(try have e1:=f1.cell);(try have e2:=f2.cell);(try have e3:=f3.cell);(try have e4:=f4.cell);go_simp;(try with_reducible rfl);go_simp;refine k _ ?_;clear k K))
 refine zc rfl (λJ hJ=>?_);go_wp2;refine hJ.out _ _ (λhh=>absurd rfl hh) ?_;clear hJ J;refine ze ?_;go_wp2_with fail
 refine yl [O 0,O 1,O 2,O 3,O 4,O 5,O 6,O 7,O 8,O 9] (some 10) (λw'=>w'.cell? ⟨K.bx,0,none⟩=some (.pointer (some ⟨B,0,none⟩))/\w'.cell? ⟨B,0,none⟩=some (.slice (some ⟨K.nb,0,none⟩) S.nodes.length K.nc)/\w'.cell? ⟨K.nb,i,none⟩=some (.pointer (some ⟨b,0,none⟩))/\Blk w' w.heap.size #[.int .i64 knd,.int .i64 (i:Nat),.int .i64 A,.int .i64 bit,.int .u32 (msk:Nat),.string (bs str)] 39/\True) #[true,true,true,true,true,true,true,true,true,true,false,false,false,false,false,false,false] (m:=7) (by kernel_rfl) (by kernel_rfl) (by rw [← hwA];exact⟨eX2,cB2,hnc,kOA',trivial⟩) ?_;rw [← hwA];clear hwA
 (repeat (refine zA (v:=?_) rfl rfl (λw' h=>?_) (λK k=>?_);rotate_left;obtain⟨f1,f2,f3,f4,_⟩:=h;(try have e1:=f1.cell);(try have e2:=f2.cell);(try have e3:=f3.cell);(try have e4:=f4.cell);go_simp;(try with_reducible rfl);go_simp;refine k _ ?_;clear k K))
 refine zY (λ_=>?_);refine Zp 10 [14] (by kernel_rfl) ?_ (qw ?_ Zq)
 ·refine zbG rfl (by decide) (λJ hJ=>?_)
  go_wp2_with fail
  refine(hcc.out _ _ hN).mono ?_;rintro e w2⟨rfl,ow2,hs2,hN2⟩;have hI2:=hIA.setNode hi16 hnb hs2 hN2;have hst2:=hstB.trans (hs2.mono (Sub.child t i));go_wp2;refine hJ.out _ _ ?_;clear hJ J;refine yC [O 11,O 12,O 13,E 14,E 15,O 16] (by kernel_rfl) (λ_=>trivial) ?_
  (repeat (refine zA (v:=?_) rfl rfl (λw' h=>?_) (λK k=>?_);rotate_left;(focus (clear h;go_simp;(try with_reducible rfl)));(go_simp;refine k _ ?_;clear k K)))
  refine zQ rfl (by simp) (λJ hJ=>?_);go_wp2;refine hJ.out _ _ trivial ?_;clear hJ J;refine zQ rfl (by simp) (λJ hJ=>?_);go_wp2;refine hJ.out _ _ trivial ?_;clear hJ J
  (repeat (refine zA (v:=?_) rfl rfl (λw' h=>?_) (λK k=>?_);rotate_left;(focus (clear h;go_simp;(try with_reducible rfl)));(go_simp;refine k _ ?_;clear k K)))
  refine zY ?_;go_wp2;go_ret
  exact⟨rfl,_,hst2.trans (zq.wrap (zg (N2 _ _) _) (zq.refl _ _ _)),tv,lp,(zk.loc B K tv lp _ t).cut hI2 (zg (N2 _ _) _)⟩
 ·refine xh rfl (λJ hJ=>?_)
  go_wp2;refine hJ.out _ _ ⟨jx eX2 _,jx cB2 _,jx hnc _,kOA'.alloc _,trivial⟩ ?_;clear hJ J;refine yC [E 10,O 11,O 12,O 13,E 15,O 16] (by kernel_rfl) (λ_=>⟨jx eX2 _,jx cB2 _,jx hnc _,kOA'.alloc _,trivial⟩) ?_;refine vr rfl (λJ hJ=>?_);go_wp2_with fail
  have hbA:Below wA.heap.size wA (wA.alloc (.cells #[.int .i64 0,.int .u32 0,.string ⟨#[]⟩] 34)):=zg (N2 _ _) _;have kV:Blk (wA.alloc (.cells #[.int .i64 0,.int .u32 0,.string ⟨#[]⟩] 34)) wA.heap.size #[.int .i64 0,.int .u32 0,.string ⟨#[]⟩] 34:=Blk.new rfl;have hIV:=(zk.loc B K tv lp _ t).cut hIA hbA;have hNV:=(zx.loc _ _ _ _ _ _ _ _).cut hN hbA;have ovV:(ow1.cut wA) wA.heap.size=[]:=Own.cut_new (N0 _);refine(hcc.out _ _ hNV).mono ?_;rintro e w2⟨rfl,ow2,hs2,hN2⟩;have hI2:=hIV.setNode hi16 hnb hs2 hN2;have kV2:=kV.kept (hs2.block kV.lt (by rw [ovV];exact zi (by simp)));have ov2:ow2 wA.heap.size=[]:=(hs2.agree _ kV.lt).trans ovV;have hst2:zq t ow w ow2 w2:=hstB.trans (zq.wrap hbA (hs2.mono (Sub.child t i)));have cv2:=kV2.cell;have fv2:=kV2.frozen;have lv2:=kV2.lt;go_wp2;refine hJ.out _ _ ?_;clear hJ J
  (repeat (refine zA (v:=?_) rfl rfl (λw' h=>?_) (λK k=>?_);rotate_left;(focus (clear h;go_simp;(try with_reducible rfl)));(go_simp;refine k _ ?_;clear k K)))
  refine zQ rfl (by simp) (λJ hJ=>?_);go_wp2;refine hJ.out _ _ trivial ?_;clear hJ J cv2 fv2 lv2
  (repeat (refine zA (v:=?_) rfl rfl (λw' h=>?_) (λK k=>?_);rotate_left;(focus (clear h;go_simp;(try with_reducible rfl)));(go_simp;refine k _ ?_;clear k K)))
  refine zY ?_;obtain⟨w3,hw3⟩:∃x,x=((w2.setCell ⟨wA.heap.size,0,none⟩ (.int .i64 mi)).setCell ⟨wA.heap.size,1,none⟩ (.int .u32 (mc:Nat))).setCell ⟨wA.heap.size,2,none⟩ (.string (bs md)):=⟨_,rfl⟩;have hM3:Mod (λk=>k=wA.heap.size) w2 w3:=by rw [hw3];exact(((Mod.refl (λk=>k=wA.heap.size) w2).thenSet (p:=⟨wA.heap.size,0,none⟩) rfl _).thenSet (p:=⟨wA.heap.size,1,none⟩) rfl _).thenSet (p:=⟨wA.heap.size,2,none⟩) rfl _
  rw [← hw3];clear hw3;have hI3:=(zk.loc B K tv lp _ t).modFree ht hI2 ov2 hM3;have hsz:=hstB.size;have hst3:=hst2.modNew hsz hM3;go_wp2;go_ret
  exact⟨rfl,_,hst3,tv,lp,hI3⟩
end
open Go Go.RowKit Go.Shelf Go.Extern.Stop Go.Stop Go.Extern
attribute [local go_sem] Oper.semAt_some zw zn
variable {B:Nat}{K:WK}{S:zj}{v:Int}{k0 L:Nat}{t:List Nat}{ow:Own}{a:Addr}{w:World}
theorem zr.deed(h:zr v k0 L S)(hL:L<=3000000000)(o:OpD)(hs:zhH o)(hi:¬(3<=o.kind/\o.kind<=6)->0<=o.node/\o.node<S.nodes.length):zr v k0 (L+16) (yK S (zp v) o).1:=by
 have hi:¬(3<=o.kind/\o.kind<=6)->o.node.toNat<S.nodes.length:=λhk=>by have:=hi hk;omega
 have h0:=h.mono (N0 k0) (show L<=L+16 by omega);unfold yK;simp only
 split
 ·have hl:=hi (by omega)
  exact(h0.stale hl).setNode _ ((h.node hl).2.broadcast _ hs.len)
 split
 ·exact h.propose hL (hi (by omega))
 split
 ·exact h.take hL _
 split
 ·exact h0.drop _
 split
 ·exact(h.copy hL _).mono (N0 _) (by omega)
 split
 ·exact h0.harm _ _ hs.mask
 split
 ·exact(h0.delLead _).setNode _ ((h.node (hi (by omega))).2.crash)
 split
 ·exact h0.setNode _ ((h.node (hi (by omega))).2.cut _)
 split
 ·have hl:=hi (by omega)
  exact((h0.stale hl).delLead _).setNode _ ((h.node hl).2.recover)
 split
 ·exact h0.setNode _ ((h.node (hi (by omega))).2.want _)
 ·exact h0
theorem ziY(hG:zr v k0 L S)(hL:L<=3000000000)(hv:known v=true)(ht:t≠ [])(o:OpD)(ho:zhH o)(k:Nat)(hk:1<=k/\k<=10)(hkd:o.kind=k)(hi:¬(3<=o.kind/\o.kind<=6)->0<=o.node/\o.node<S.nodes.length)
 (h:zy B K S t ow w) (he:jA w a) (hge:ow 2=[]):Calls prog (zfZ k) #[opV o,.pointer (some ⟨K.bx,0,none⟩)] w (vi B K (yK S (zp v) o).1 t ow w (.int .i64 (yK S (zp v) o).2)):=by
 have hn:¬(3<=o.kind/\o.kind<=6)->o.node=(o.node.toNat:Nat)/\o.node.toNat<S.nodes.length:=λhk=>by have:=hi hk;omega
 rcases(by omega:k=1∨k=2∨k=3∨k=4∨k=5∨k=6∨k=7∨k=8∨k=9∨k=10)with rfl|rfl|rfl|rfl|rfl|rfl|rfl|rfl|rfl|rfl
 ·have:=hn (by rw [hkd];decide)
  have hd:yK S (zp v) o=(setNode (ZV S o.node.toNat) o.node.toNat (jc (zt S o.node.toNat) o.s).1,(jc (zt S o.node.toNat) o.s).2.2):=by unfold yK;simp [hkd]
  rw [hd];exact zk5 hG ht o ho _ this.1 this.2 h
 ·have:=hn (by rw [hkd];decide)
  have hd:yK S (zp v) o=yr S o.node.toNat:=by unfold yK;simp [hkd]
  rw [hd];exact zk1 hG hL ht o _ this.1 this.2 h
 ·have hd:yK S (zp v) o=Jc S o.a:=by unfold yK;simp [hkd]
  rw [hd];exact zk0 hG hL ht o h he hge
 ·have hd:yK S (zp v) o=J1 S o.a:=by unfold yK;simp [hkd]
  rw [hd];exact zkX hG o h
 ·have hd:yK S (zp v) o=Yw S o.a:=by unfold yK;simp [hkd]
  rw [hd];exact zkY hG hL o h
 ·have hd:yK S (zp v) o=Jd S o.a o.b o.mask:=by unfold yK;simp [hkd]
  rw [hd];exact zkZ hG hL o ho h
 ·have:=hn (by rw [hkd];decide)
  have hd:yK S (zp v) o=(setNode {S with leads:=del o.node S.leads} o.node.toNat (xN (zt S o.node.toNat)).1,(xN (zt S o.node.toNat)).2):=by unfold yK;simp [hkd]
  rw [hd];have h7:=zk3 hG o _ this.1 this.2 h
  rwa [← this.1] at h7
 ·have:=hn (by rw [hkd];decide)
  have hd:yK S (zp v) o=(setNode S o.node.toNat (zcu (zt S o.node.toNat) o.a).1,(zcu (zt S o.node.toNat) o.a).2):=by unfold yK;simp [hkd]
  rw [hd];exact zk2 hG o _ this.1 this.2 h
 ·have:=hn (by rw [hkd];decide)
  have hd:yK S (zp v) o=(setNode {ZV S o.node.toNat with leads:=del o.node S.leads} o.node.toNat (yN (zt S o.node.toNat) (zp v)),0):=by unfold yK;simp [hkd]
  rw [hd];have h9:=zk4 hG hv ht o _ this.1 this.2 h he hge
  rwa [← this.1] at h9
 ·have:=hn (by rw [hkd];decide)
  have hd:yK S (zp v) o=(setNode S o.node.toNat (Z1 (zt S o.node.toNat) o.a).1,(Z1 (zt S o.node.toNat) o.a).2):=by unfold yK;simp [hkd]
  rw [hd];exact zkz hG o _ this.1 this.2 h
theorem zhI(bx:Nat){k:Nat}(h:1<=k/\k<=10):zJ (k:Int) (Yy bx)=some (xC bx k):=by
 rcases(by omega:k=1∨k=2∨k=3∨k=4∨k=5∨k=6∨k=7∨k=8∨k=9∨k=10)with rfl|rfl|rfl|rfl|rfl|rfl|rfl|rfl|rfl|rfl<;>rfl
theorem zb1 {k:Nat}(h:1<=k/\k<=10):∀args w,(callFunc (zfZ k) args).run prog w=.ok (.enter (zfZ k) args) w:=by
 rcases(by omega:k=1∨k=2∨k=3∨k=4∨k=5∨k=6∨k=7∨k=8∨k=9∨k=10)with rfl|rfl|rfl|rfl|rfl|rfl|rfl|rfl|rfl|rfl
 ·exact enters_of func49 (by kernel_rfl) rfl
 ·exact enters_of func51 (by kernel_rfl) rfl
 ·exact enters_of func53 (by kernel_rfl) rfl
 ·exact enters_of func55 (by kernel_rfl) rfl
 ·exact enters_of func57 (by kernel_rfl) rfl
 ·exact enters_of func59 (by kernel_rfl) rfl
 ·exact enters_of func61 (by kernel_rfl) rfl
 ·exact enters_of func63 (by kernel_rfl) rfl
 ·exact enters_of func65 (by kernel_rfl) rfl
 ·exact enters_of func67 (by kernel_rfl) rfl
