/- PARTS OF THE PROOF. -/
import Derived.Test.YtobnhnidffipjaaGreatDoorK45
set_option maxRecDepth 8000
set_option maxHeartbeats 4000000
open Go.Proofs.Tryz
namespace Go.Proofs.YtobnhnidffipjaaGreatDoor
section
open Go Go.RowKit Go.Shelf Go.Extern.Stop Go.Stop Go.Extern
attribute [local go_sem] Oper.semAt_some zw zm
variable {B:Nat}{K:WK}{S:zl}{v:Int}{k0 L:Nat}{t:List Nat}{ow:Own}{a:Addr}{w:World}
theorem zkM(hG:zr v k0 L S)(ht:t≠ [])(o:OpD)(ho:zhx o)(i:Nat)(hn:o.node=i)(hi:i<S.nodes.length)(h:zy B K S t ow w):Calls prog 49 #[opV o,.pointer (some ⟨K.bx,0,none⟩)] w (vu B K (setNode (ZX S i) i (z6 (zt S i) o.s).1) t ow w (.int .i64 (z6 (zt S i) o.s).2.2)):=by
 have hlen:=ho.len;clear ho;obtain⟨knd,nod,A,bit,msk,str⟩:=o;simp only at hn;subst hn;unfold opV;have hi16:i<16:=by have:=hG.n0;omega
 have y0:(0:Int)<=(i:Int):=by omega
 have y1:(i:Int)<(S.nodes.length:Int):=by omega
 have hb1:Below w.heap.size w (w.alloc (.cells #[.int .i64 knd,.int .i64 (i:Nat),.int .i64 A,.int .i64 bit,.int .u32 (msk:Nat),.string (bs str)] 39)).drew:=zn (zg (N2 _ _) _);have hW1:=(zy.loc B K S t).cut h hb1;have kO:Blk (w.alloc (.cells #[.int .i64 knd,.int .i64 (i:Nat),.int .i64 A,.int .i64 bit,.int .u32 (msk:Nat),.string (bs str)] 39)).drew w.heap.size #[.int .i64 knd,.int .i64 (i:Nat),.int .i64 A,.int .i64 bit,.int .u32 (msk:Nat),.string (bs str)] 39:=(Blk.new rfl).drew;obtain⟨tv,lp,hI1⟩:=hW1;have hom:(ow.cut w) w.heap.size=[]:=Own.cut_new (N0 _);obtain⟨w1,hw1⟩:∃x,x=w.alloc (.cells #[.int .i64 knd,.int .i64 (i:Nat),.int .i64 A,.int .i64 bit,.int .u32 (msk:Nat),.string (bs str)] 39):=⟨_,rfl⟩;obtain⟨ow1,how⟩:∃x,x=ow.cut w:=⟨_,rfl⟩;rw [← how] at hI1 hom;replace how:=G how;rw [← hw1] at hb1 kO hI1;have eX:=hI1.does.2.2.2.cell 0;have hnl:S.nodes.length=S.nodes.length:=rfl;simp only at hlen;have cB1:World.cell? w1.drew ⟨B,1,none⟩=some (.slice (some ⟨K.sb,0,none⟩) S.nodes.length S.nodes.length):=hI1.blk.cell 1;obtain⟨os0,ol0,hs0⟩:=hI1.srow;have g3:World.cell? w1.drew ⟨K.sb,i*5+3,none⟩=some (.bool (jC S i).stale):=hs0.cellL (jo (hG.seat hi) (j:=3) (by decide));have f3:∀o,World.frozen? w1.drew ⟨K.sb,o,none⟩=false:=hs0.frozen;have l3:K.sb<w1.drew.heap.size:=hs0.lt;obtain⟨hsA,hIA0⟩:=hI1.setSeat (v:=.bool true) (s':={jC S i with stale:=true}) (hG.seat hi) (j:=3) (by decide) rfl;have kOA:Blk (w1.drew.setCell ⟨K.sb,i*5+3,none⟩ (.bool true)) w.heap.size #[.int .i64 knd,.int .i64 (i:Nat),.int .i64 A,.int .i64 bit,.int .u32 (msk:Nat),.string (bs str)] 39:=kO.other (p:=⟨K.sb,i*5+3,none⟩) (λe=>by have e':w.heap.size=K.sb:=e;rw [e',os0] at hom;simp at hom) _;have hIA:=(zh.loc B K tv lp _ t).below hIA0 (zn (N2 _ _));have hstA:zq t ow1 w1.drew ow1 (w1.drew.setCell ⟨K.sb,i*5+3,none⟩ (.bool true)).drew:=(hsA.mono (Sub.child t 21)).trans (zq.drew _ _ _);have eXA:=hIA.does.2.2.2.cell 0;have kOA':Blk (w1.drew.setCell ⟨K.sb,i*5+3,none⟩ (.bool true)).drew w.heap.size #[.int .i64 knd,.int .i64 (i:Nat),.int .i64 A,.int .i64 bit,.int .u32 (msk:Nat),.string (bs str)] 39:=kOA.drew;replace hs0:=G hs0;replace hIA0:=G hIA0;replace hI1:=G hI1;obtain⟨wA,hwA⟩:∃x,x=(w1.setCell ⟨K.sb,i*5+3,none⟩ (.bool true)).drew.drew:=⟨_,rfl⟩;have hwA':(w1.drew.setCell ⟨K.sb,i*5+3,none⟩ (.bool true)).drew=wA:=by rw [hwA];rfl
 rw [hwA'] at hIA hstA kOA' eXA;clear hwA';obtain⟨b,hnb,px,sb,lb,pb,av,hN⟩:=(hIA).node hi16 (hG.node hi).1;have hnc:=(hIA).nodeCell hnb;have eX2:=(hIA).does.2.2.2.cell 0;have cB2:World.cell? _ ⟨B,0,none⟩=some (.slice (some ⟨K.nb,0,none⟩) S.nodes.length K.nc):=(hIA).blk.cell 0;have hstB:zq t ow w ow1 wA:=zq.wrap hb1 (by rw [← how.out];exact hstA);have omA:ow1 w.heap.size=[]:=hom;have hgk:=(hG.node hi).2.ok.2;have hgf:=(hG.node hi).2.few.1;have hcc:=λW ow' hW=>XJ (px:=px) (sb:=sb) (lb:=lb) (pb:=pb) (av:=av) b (zt S i) (t++ [i]) (by simp) ow' str (by omega) W hW hgk (by omega)
 obtain⟨⟨m,⟨⟨mi,mc⟩,md⟩,er⟩,hbc⟩:∃q,z6 (zt S i) str=q:=⟨_,rfl⟩;rw [hbc] at hcc;simp only [hbc];unfold zg7 vp at hcc;simp only at hcc;replace hcc:=G hcc;replace hbc:=G hbc;replace hgk:=G hgk
 go_enter func49,ntmps49
 go_wp2_with fail
 rw [← hw1];clear hw1;refine zd [O 0,O 1,O 2,O 3,O 4,O 5,O 6,O 7,E 8] (some 8) (λw'=>w'.cell? ⟨K.bx,0,none⟩=some (.pointer (some ⟨B,0,none⟩))/\w'.cell? ⟨B,1,none⟩=some (.slice (some ⟨K.sb,0,none⟩) S.nodes.length S.nodes.length)/\Blk w' w.heap.size #[.int .i64 knd,.int .i64 (i:Nat),.int .i64 A,.int .i64 bit,.int .u32 (msk:Nat),.string (bs str)] 39/\True) (by kernel_rfl) (by kernel_rfl) ⟨eX,cB1,kO,trivial⟩ ?_
 (repeat (refine za (v:=?_) rfl rfl (λw' h=>?_) (λK k=>?_);rotate_left;obtain⟨f1,f2,f3,f4,_⟩:=h;(try have e1:=f1.cell);(try have e2:=f2.cell);(try have e3:=f3.cell);(try have e4:=f4.cell);go_simp;(try with_reducible rfl);go_simp;refine k _ ?_;clear k K))
 refine zc rfl (λJ hJ=>?_);go_wp2;refine hJ.out _ _ (λhh=>absurd rfl hh) ?_;clear hJ J;refine zf ?_;go_wp2_with fail
 refine vi [O 0,O 1,O 2,O 3,O 4,O 5,O 6,O 7,O 8,O 9] (some 10) (λw'=>w'.cell? ⟨K.bx,0,none⟩=some (.pointer (some ⟨B,0,none⟩))/\w'.cell? ⟨B,0,none⟩=some (.slice (some ⟨K.nb,0,none⟩) S.nodes.length K.nc)/\w'.cell? ⟨K.nb,i,none⟩=some (.pointer (some ⟨b,0,none⟩))/\Blk w' w.heap.size #[.int .i64 knd,.int .i64 (i:Nat),.int .i64 A,.int .i64 bit,.int .u32 (msk:Nat),.string (bs str)] 39/\True) #[true,true,true,true,true,true,true,true,true,true,false,false,false,false,false,false,false] (m:=7) (by kernel_rfl) (by kernel_rfl) (by rw [← hwA];exact⟨eX2,cB2,hnc,kOA',trivial⟩) ?_;rw [← hwA];clear hwA
 (repeat (refine zA (v:=?_) rfl rfl (λw' h=>?_) (λK k=>?_);rotate_left;obtain⟨f1,f2,f3,f4,_⟩:=h;(try have e1:=f1.cell);(try have e2:=f2.cell);(try have e3:=f3.cell);(try have e4:=f4.cell);go_simp;(try with_reducible rfl);go_simp;refine k _ ?_;clear k K))
 refine jv (λ_=>?_);refine zbz 10 [14] (by kernel_rfl) ?_ (Qr ?_ zbA)
 ·refine zbC rfl (by decide) (λJ hJ=>?_)
  go_wp2_with fail
  refine(hcc.out _ _ hN).mono ?_;rintro e w2⟨rfl,ow2,hs2,hN2⟩;have hI2:=hIA.setNode hi16 hnb hs2 hN2;have hst2:=hstB.trans (hs2.mono (Sub.child t i));go_wp2;refine hJ.out _ _ ?_;clear hJ J;refine xZ [O 11,O 12,O 13,E 14,E 15,O 16] (by kernel_rfl) (λ_=>trivial) ?_
  (repeat (refine zA (v:=?_) rfl rfl (λw' h=>?_) (λK k=>?_);rotate_left;go_simp;(try with_reducible rfl);go_simp;refine k _ ?_;clear k K))
  refine j0 rfl (by simp) (λJ hJ=>?_);go_wp2;refine hJ.out _ _ trivial ?_;clear hJ J;refine j0 rfl (by simp) (λJ hJ=>?_);go_wp2;refine hJ.out _ _ trivial ?_;clear hJ J
  (repeat (refine zA (v:=?_) rfl rfl (λw' h=>?_) (λK k=>?_);rotate_left;go_simp;(try with_reducible rfl);go_simp;refine k _ ?_;clear k K))
  refine jv ?_;go_wp2;go_ret
  exact⟨rfl,_,hst2.trans (zq.wrap (zg (N2 _ _) _) (zq.refl _ _ _)),tv,lp,(zh.loc B K tv lp _ t).cut hI2 (zg (N2 _ _) _)⟩
 ·refine zbB rfl (λJ hJ=>?_)
  go_wp2;refine hJ.out _ _ ⟨jt eX2 _,jt cB2 _,jt hnc _,kOA'.alloc _,trivial⟩ ?_;clear hJ J;refine xZ [E 10,O 11,O 12,O 13,E 15,O 16] (by kernel_rfl) (λ_=>⟨jt eX2 _,jt cB2 _,jt hnc _,kOA'.alloc _,trivial⟩) ?_;refine vt rfl (λJ hJ=>?_);go_wp2_with fail
  have hbA:Below wA.heap.size wA (wA.alloc (.cells #[.int .i64 0,.int .u32 0,.string ⟨#[]⟩] 34)):=zg (N2 _ _) _;have kV:Blk (wA.alloc (.cells #[.int .i64 0,.int .u32 0,.string ⟨#[]⟩] 34)) wA.heap.size #[.int .i64 0,.int .u32 0,.string ⟨#[]⟩] 34:=Blk.new rfl;have hIV:=(zh.loc B K tv lp _ t).cut hIA hbA;have hNV:=(zx.loc _ _ _ _ _ _ _ _).cut hN hbA;have ovV:(ow1.cut wA) wA.heap.size=[]:=Own.cut_new (N0 _);refine(hcc.out _ _ hNV).mono ?_;rintro e w2⟨rfl,ow2,hs2,hN2⟩;have hI2:=hIV.setNode hi16 hnb hs2 hN2;have kV2:=kV.kept (hs2.block kV.lt (by rw [ovV];exact zj (by simp)));have ov2:ow2 wA.heap.size=[]:=(hs2.agree _ kV.lt).trans ovV;have hst2:zq t ow w ow2 w2:=hstB.trans (zq.wrap hbA (hs2.mono (Sub.child t i)));have cv2:=kV2.cell;have fv2:=kV2.frozen;have lv2:=kV2.lt;go_wp2;refine hJ.out _ _ ?_;clear hJ J
  (repeat (refine zA (v:=?_) rfl rfl (λw' h=>?_) (λK k=>?_);rotate_left;go_simp;(try with_reducible rfl);go_simp;refine k _ ?_;clear k K))
  refine j0 rfl (by simp) (λJ hJ=>?_);go_wp2;refine hJ.out _ _ trivial ?_;clear hJ J cv2 fv2 lv2
  (repeat (refine zA (v:=?_) rfl rfl (λw' h=>?_) (λK k=>?_);rotate_left;go_simp;(try with_reducible rfl);go_simp;refine k _ ?_;clear k K))
  refine jv ?_;obtain⟨w3,hw3⟩:∃x,x=((w2.setCell ⟨wA.heap.size,0,none⟩ (.int .i64 mi)).setCell ⟨wA.heap.size,1,none⟩ (.int .u32 (mc:Nat))).setCell ⟨wA.heap.size,2,none⟩ (.string (bs md)):=⟨_,rfl⟩;have hM3:Mod (λk=>k=wA.heap.size) w2 w3:=by rw [hw3];exact(((Mod.refl (λk=>k=wA.heap.size) w2).thenSet (p:=⟨wA.heap.size,0,none⟩) rfl _).thenSet (p:=⟨wA.heap.size,1,none⟩) rfl _).thenSet (p:=⟨wA.heap.size,2,none⟩) rfl _
  rw [← hw3];clear hw3;have hI3:=(zh.loc B K tv lp _ t).modFree ht hI2 ov2 hM3;have hsz:=hstB.size;have hst3:=hst2.modNew hsz hM3;go_wp2;go_ret
  exact⟨rfl,_,hst3,tv,lp,hI3⟩
end
section
open Go Go.RowKit Go.Shelf Go.Extern.Stop Go.Stop Go.Extern
attribute [local go_sem] Oper.semAt_some zw zm
variable {B:Nat}{K:WK}{S:zl}{v:Int}{k0 L:Nat}{t:List Nat}{ow:Own}{a:Addr}{w:World}
theorem zr.deed(h:zr v k0 L S)(hL:L<=3000000000)(o:OpD)(hs:zhx o)(hi:¬(3<=o.kind/\o.kind<=6)->0<=o.node/\o.node<S.nodes.length):zr v k0 (L+16) (yM S (zo v) o).1:=by
 have hi:¬(3<=o.kind/\o.kind<=6)->o.node.toNat<S.nodes.length:=λhk=>by have:=hi hk;omega
 have h0:=h.mono (N0 k0) (show L<=L+16 by omega);unfold yM;simp only
 split
 ·have hl:=hi (by omega)
  exact(h0.stale hl).setNode _ ((h.node hl).2.broadcast _ hs.len)
 split
 ·exact h.propose hL (hi (by omega))
 split
 ·exact h.take hL _
 split
 ·exact h0.drop _
 split
 ·exact(h.copy hL _).mono (N0 _) (by omega)
 split
 ·exact h0.harm _ _ hs.mask
 split
 ·exact(h0.delLead _).setNode _ ((h.node (hi (by omega))).2.crash)
 split
 ·exact h0.setNode _ ((h.node (hi (by omega))).2.cut _)
 split
 ·have hl:=hi (by omega)
  exact((h0.stale hl).delLead _).setNode _ ((h.node hl).2.recover)
 split
 ·exact h0.setNode _ ((h.node (hi (by omega))).2.want _)
 ·exact h0
theorem ziO(hG:zr v k0 L S)(hL:L<=3000000000)(hv:known v=true)(ht:t≠ [])(o:OpD)(ho:zhx o)(k:Nat)(hk:1<=k/\k<=10)(hkd:o.kind=k)(hi:¬(3<=o.kind/\o.kind<=6)->0<=o.node/\o.node<S.nodes.length)
 (h:zy B K S t ow w) (he:jz w a) (hge:ow 2=[]):Calls prog (zfO k) #[opV o,.pointer (some ⟨K.bx,0,none⟩)] w (vu B K (yM S (zo v) o).1 t ow w (.int .i64 (yM S (zo v) o).2)):=by
 have hn:¬(3<=o.kind/\o.kind<=6)->o.node=(o.node.toNat:Nat)/\o.node.toNat<S.nodes.length:=λhk=>by have:=hi hk;omega
 rcases(by omega:k=1∨k=2∨k=3∨k=4∨k=5∨k=6∨k=7∨k=8∨k=9∨k=10)with rfl|rfl|rfl|rfl|rfl|rfl|rfl|rfl|rfl|rfl
 ·have:=hn (by rw [hkd];decide)
  have hd:yM S (zo v) o=(setNode (ZX S o.node.toNat) o.node.toNat (z6 (zt S o.node.toNat) o.s).1,(z6 (zt S o.node.toNat) o.s).2.2):=by unfold yM;simp [hkd]
  rw [hd];exact zkM hG ht o ho _ this.1 this.2 h
 ·have:=hn (by rw [hkd];decide)
  have hd:yM S (zo v) o=yq S o.node.toNat:=by unfold yM;simp [hkd]
  rw [hd];exact zkI hG hL ht o _ this.1 this.2 h
 ·have hd:yM S (zo v) o=Jh S o.a:=by unfold yM;simp [hkd]
  rw [hd];exact zkH hG hL ht o h he hge
 ·have hd:yM S (zo v) o=J4 S o.a:=by unfold yM;simp [hkd]
  rw [hd];exact zkE hG o h
 ·have hd:yM S (zo v) o=Yy S o.a:=by unfold yM;simp [hkd]
  rw [hd];exact zkF hG hL o h
 ·have hd:yM S (zo v) o=Ji S o.a o.b o.mask:=by unfold yM;simp [hkd]
  rw [hd];exact zkG hG hL o ho h
 ·have:=hn (by rw [hkd];decide)
  have hd:yM S (zo v) o=(setNode {S with leads:=del o.node S.leads} o.node.toNat (xP (zt S o.node.toNat)).1,(xP (zt S o.node.toNat)).2):=by unfold yM;simp [hkd]
  rw [hd];have h7:=zkK hG o _ this.1 this.2 h
  rwa [← this.1] at h7
 ·have:=hn (by rw [hkd];decide)
  have hd:yM S (zo v) o=(setNode S o.node.toNat (zcr (zt S o.node.toNat) o.a).1,(zcr (zt S o.node.toNat) o.a).2):=by unfold yM;simp [hkd]
  rw [hd];exact zkJ hG o _ this.1 this.2 h
 ·have:=hn (by rw [hkd];decide)
  have hd:yM S (zo v) o=(setNode {ZX S o.node.toNat with leads:=del o.node S.leads} o.node.toNat (yN (zt S o.node.toNat) (zo v)),0):=by unfold yM;simp [hkd]
  rw [hd];have h9:=zkL hG hv ht o _ this.1 this.2 h he hge
  rwa [← this.1] at h9
 ·have:=hn (by rw [hkd];decide)
  have hd:yM S (zo v) o=(setNode S o.node.toNat (Z6 (zt S o.node.toNat) o.a).1,(Z6 (zt S o.node.toNat) o.a).2):=by unfold yM;simp [hkd]
  rw [hd];exact zkk hG o _ this.1 this.2 h
theorem zhz(bx:Nat){k:Nat}(h:1<=k/\k<=10):zK (k:Int) (YA bx)=some (xE bx k):=by
 rcases(by omega:k=1∨k=2∨k=3∨k=4∨k=5∨k=6∨k=7∨k=8∨k=9∨k=10)with rfl|rfl|rfl|rfl|rfl|rfl|rfl|rfl|rfl|rfl<;>rfl
theorem zbZ {k:Nat}(h:1<=k/\k<=10):∀args w,(callFunc (zfO k) args).run prog w=.ok (.enter (zfO k) args) w:=by
 rcases(by omega:k=1∨k=2∨k=3∨k=4∨k=5∨k=6∨k=7∨k=8∨k=9∨k=10)with rfl|rfl|rfl|rfl|rfl|rfl|rfl|rfl|rfl|rfl
 ·exact enters_of func49 (by kernel_rfl) rfl
 ·exact enters_of func51 (by kernel_rfl) rfl
 ·exact enters_of func53 (by kernel_rfl) rfl
 ·exact enters_of func55 (by kernel_rfl) rfl
 ·exact enters_of func57 (by kernel_rfl) rfl
 ·exact enters_of func59 (by kernel_rfl) rfl
 ·exact enters_of func61 (by kernel_rfl) rfl
 ·exact enters_of func63 (by kernel_rfl) rfl
 ·exact enters_of func65 (by kernel_rfl) rfl
 ·exact enters_of func67 (by kernel_rfl) rfl
end
open Go Go.RowKit Go.Shelf Go.Extern.Stop Go.Stop Go.Extern
attribute [local go_sem] Oper.semAt_some zw zm
variable {B:Nat}{K:WK}{S:zl}{v:Int}{k0 L:Nat}{t:List Nat}{ow:Own}{a:Addr}{w:World}
theorem ziP(o:OpD)(w:World):Calls prog 14 #[.pointer none,opV o] w λe w'=>e=.returned (.int .i64 1)/\Below w.heap.size w w':=by
 unfold opV
 go_enter func14,ntmps14
 go_wp2_with fail
 refine(Zu _).mono ?_;rintro e w1⟨rfl,hw1⟩;obtain rfl:=hw1.symm;go_wp2;go_ret
 exact⟨rfl,pbx⟩
theorem zdi {tv:Value}{lp:Nat->Option Nat}{W:World}(hI:zh B K tv lp S t ow W){i:Int}(hl:S.trace.length<=1000000000):
 ∃sa sc W7,(Builtin.append_ #[27,27] 27 #[tv,.slice (some ⟨W.heap.size,0,none⟩) 1 1]).run prog (W.alloc (.cells #[.int .i64 2,.int .i64 i,.int .i64 0,.int .u32 0,.string ⟨#[]⟩] 36))=.ok (.slice sa (S.trace.length+1) sc) W7/\
  W7.cell? ⟨B,6,none⟩=some tv/\(∀o,W7.frozen? ⟨B,o,none⟩=false)/\B<W7.heap.size/\(∀k,k<W.heap.size->ow k=[] ->W7.heap[k]?=W.heap[k]?)/\
  ∃ow',zq t ow W ow' (W7.setCell ⟨B,6,none⟩ (.slice sa (S.trace.length+1) sc))/\zy B K {S with trace:=S.trace++ [(2,i,((0,0),[]))] } t ow' (W7.setCell ⟨B,6,none⟩ (.slice sa (S.trace.length+1) sc)):=by
 have hb5:Below W.heap.size W (W.alloc (.cells #[.int .i64 2,.int .i64 i,.int .i64 0,.int .u32 0,.string ⟨#[]⟩] 36)):=zg (N2 _ _) _;have k5:Blk (W.alloc (.cells #[.int .i64 2,.int .i64 i,.int .i64 0,.int .u32 0,.string ⟨#[]⟩] 36)) W.heap.size #[.int .i64 2,.int .i64 i,.int .i64 0,.int .u32 0,.string ⟨#[]⟩] 36:=Blk.new rfl;have hsrc5:Src (W.alloc (.cells #[.int .i64 2,.int .i64 i,.int .i64 0,.int .u32 0,.string ⟨#[]⟩] 36)) (.slice (some ⟨W.heap.size,0,none⟩) 1 1) 5 [((2,i,(0,0),[]):zb4)].length ([((2,i,(0,0),[]):zb4)].flatMap jp):=jH (n:=1) (size:=5) (cap:=1) k5 rfl (N0 1);have hI5:=(zh.loc B K tv lp _ t).cut hI hb5;obtain⟨pv',W7,hrun,hrow,hgr,hown⟩:=zN zkD hI5.trow.2 hsrc5 (Zv _) (by simp;omega) 27
 have hrow':Row W7 36 5 pv' (S.trace++ [(2,i,(0,0),[])]).length ((S.trace++ [(2,i,(0,0),[])]).flatMap jp):=by
  rw [N1,U5];exact hrow
 obtain⟨sa,sc,rfl⟩:=hrow'.wideV.shape;obtain⟨ow8,hs8,hfr8,hI8⟩:=hI5.setTrace hrow' hgr hown;simp only [N1,U2] at hs8 hI8 hrun;have k7:=hI5.blk.kept (w':=W7) (hgr.block B hI5.blk.lt (λe=>(hI5.trow.2).ne_blk hI5.blk (by decide) e.symm rfl));exact⟨sa,sc,W7,hrun,k7.cell 6,k7.frozen,k7.lt,λk hk ho=>(hgr.block k (Nat.lt_of_lt_of_le hk hb5.size) (λe=>by have:=hI.trow.1 k e.symm;rw [ho] at this;simp at this)).trans (hb5.block k hk),ow8,zq.wrap hb5 hs8,_,_,hI8⟩
theorem ziQ(o:OpD)(hkd:o.kind<1∨10<o.kind)(h:zy B K S t ow w):Calls prog 14 #[.pointer (some ⟨B,0,none⟩),opV o] w (vu B K S t ow w (.int .i64 180)):=by
 unfold opV;have hbad:=hkd;obtain⟨knd,nod,A,bit,msk,str⟩:=o;have hb1:Below w.heap.size w (w.alloc (.cells #[.int .i64 knd,.int .i64 nod,.int .i64 A,.int .i64 bit,.int .u32 (msk:Nat),.string (bs str)] 39)):=zg (N2 _ _) _;have hW1:=(zy.loc B K S t).cut h hb1;have kO:Blk (w.alloc (.cells #[.int .i64 knd,.int .i64 nod,.int .i64 A,.int .i64 bit,.int .u32 (msk:Nat),.string (bs str)] 39)) w.heap.size #[.int .i64 knd,.int .i64 nod,.int .i64 A,.int .i64 bit,.int .u32 (msk:Nat),.string (bs str)] 39:=Blk.new rfl;have hom:(ow.cut w) w.heap.size=[]:=Own.cut_new (N0 _);obtain⟨tv,lp,hI1⟩:=hW1;obtain⟨w1,hw1⟩:∃x,x=w.alloc (.cells #[.int .i64 knd,.int .i64 nod,.int .i64 A,.int .i64 bit,.int .u32 (msk:Nat),.string (bs str)] 39):=⟨_,rfl⟩;obtain⟨ow1,how⟩:∃x,x=ow.cut w:=⟨_,rfl⟩;rw [← how] at hI1 hom;rw [← hw1] at hb1 kO hI1;have hni:=xD w1 hI1;have hnd:=λW hW=>x6 (B:=B) (K:=K) (tv:=tv) (lp:=lp) (S:=S) (t:=t) (ow:=ow1) nod W hW
 have hka:=λW=>Jl knd W
 have c5:w1.drew.cell? ⟨B,5,none⟩=some (.map (some K.dm)):=hI1.blk.cell 5;have hdm:zU w1.drew K.dm zfx (YA K.bx):=hI1.does.2.2.1;have hlk:=λW (hW:zU W K.dm zfx (YA K.bx))=>hW.lookup_ok xh Tryz.underlying70 (z:=.nilFunc) (by kernel_rfl) knd
 simp only at hkd hbad;simp only [zjQ K.bx hkd] at hlk;replace hni:=G hni;replace hnd:=G hnd;replace hka:=G hka;replace hlk:=G hlk;replace how:=G how;replace hI1:=G hI1
 go_enter func14,ntmps14
 go_wp2_with fail
 rw [← hw1];clear hw1;refine(hni.out).mono ?_;rintro e w2⟨rfl,hw2⟩;obtain rfl:=hw2.symm;go_wp2_with fail
 refine zd [O 0,O 1,O 2,O 3,O 4,O 5,O 6,O 7,O 8,O 9,O 10,O 11] none (λw'=>w'.cell? ⟨B,5,none⟩=some (.map (some K.dm))/\Blk w' w.heap.size #[.int .i64 knd,.int .i64 nod,.int .i64 A,.int .i64 bit,.int .u32 (msk:Nat),.string (bs str)] 39/\(Instr.lookup 70 (.map (some K.dm)) (.int .i64 knd) true).run prog w'=.ok (.tuple #[.nilFunc,.bool false]) w'/\True) (by kernel_rfl) (by kernel_rfl) ⟨c5,kO.drew,hlk.out _ hdm,trivial⟩ ?_
 (repeat (refine za (v:=?_) rfl rfl (λw' h=>?_) (λK k=>?_);rotate_left;obtain⟨f1,f2,f3,_⟩:=h;have e2:=f2.cell;(try have e3:=f3.cell);go_simp;(try with_reducible rfl);go_simp;refine k _ ?_;clear k K))
 refine zf ?_;have cO:=kO.cell;go_wp2;go_ret
 exact⟨rfl,ow1,zq.wrap hb1 (by rw [← how.out];exact zq.drew _ _ _),tv,lp,(zh.loc B K tv lp S t).below hI1.out (zn (N2 _ _))⟩
theorem zjR(o:OpD)(k:Nat)(hk:1<=k/\k<=10)(hkd:o.kind=k)(hbad:¬(3<=o.kind/\o.kind<=6)/\(o.node<0∨(S.nodes.length:Int)<=o.node))(h:zy B K S t ow w):Calls prog 14 #[.pointer (some ⟨B,0,none⟩),opV o] w (vu B K S t ow w (.int .i64 180)):=by
 unfold opV;obtain⟨knd,nod,A,bit,msk,str⟩:=o;have hb1:Below w.heap.size w (w.alloc (.cells #[.int .i64 knd,.int .i64 nod,.int .i64 A,.int .i64 bit,.int .u32 (msk:Nat),.string (bs str)] 39)):=zg (N2 _ _) _;have hW1:=(zy.loc B K S t).cut h hb1;have kO:Blk (w.alloc (.cells #[.int .i64 knd,.int .i64 nod,.int .i64 A,.int .i64 bit,.int .u32 (msk:Nat),.string (bs str)] 39)) w.heap.size #[.int .i64 knd,.int .i64 nod,.int .i64 A,.int .i64 bit,.int .u32 (msk:Nat),.string (bs str)] 39:=Blk.new rfl;have hom:(ow.cut w) w.heap.size=[]:=Own.cut_new (N0 _);obtain⟨tv,lp,hI1⟩:=hW1;obtain⟨w1,hw1⟩:∃x,x=w.alloc (.cells #[.int .i64 knd,.int .i64 nod,.int .i64 A,.int .i64 bit,.int .u32 (msk:Nat),.string (bs str)] 39):=⟨_,rfl⟩;obtain⟨ow1,how⟩:∃x,x=ow.cut w:=⟨_,rfl⟩;rw [← how] at hI1 hom;rw [← hw1] at hb1 kO hI1;have hni:=xD w1 hI1;have hnd:=λW hW=>x6 (B:=B) (K:=K) (tv:=tv) (lp:=lp) (S:=S) (t:=t) (ow:=ow1) nod W hW
 have hka:=λW=>Jl knd W
 have c5:w1.drew.cell? ⟨B,5,none⟩=some (.map (some K.dm)):=hI1.blk.cell 5;have hdm:zU w1.drew K.dm zfx (YA K.bx):=hI1.does.2.2.1;have hlk:=λW (hW:zU W K.dm zfx (YA K.bx))=>hW.lookup_ok xh Tryz.underlying70 (z:=.nilFunc) (by kernel_rfl) knd
 simp only at hkd hbad;subst hkd;simp only [show(!(decide (3<=(k:Int))&& decide ((k:Int)<=6)))=true by simp;omega] at hka;simp only [show(decide (0<=nod)&& decide (nod<(S.nodes.length:Int)))=false by simp;omega] at hnd;simp only [zhz K.bx hk] at hlk;obtain⟨VV,hVV⟩:∃x,xE K.bx k=x:=⟨_,rfl⟩;simp only [hVV,Option.getD_some,Option.isSome_some] at hlk;replace hVV:=G hVV;replace hni:=G hni;replace hnd:=G hnd;replace hka:=G hka;replace hlk:=G hlk;replace how:=G how;replace hI1:=G hI1;clear hbad
 go_enter func14,ntmps14
 go_wp2_with fail
 rw [← hw1];clear hw1;refine(hni.out).mono ?_;rintro e w2⟨rfl,hw2⟩;obtain rfl:=hw2.symm;go_wp2_with fail
 refine zd [O 0,O 1,O 2,O 3,O 4,O 5,O 6,O 7,O 8,O 9,O 10,O 11] none (λw'=>w'.cell? ⟨B,5,none⟩=some (.map (some K.dm))/\Blk w' w.heap.size #[.int .i64 (k:Nat),.int .i64 nod,.int .i64 A,.int .i64 bit,.int .u32 (msk:Nat),.string (bs str)] 39/\(Instr.lookup 70 (.map (some K.dm)) (.int .i64 (k:Nat)) true).run prog w'=.ok (.tuple #[VV,.bool true]) w'/\True) (by kernel_rfl) (by kernel_rfl) ⟨c5,kO.drew,hlk.out _ hdm,trivial⟩ ?_
 (repeat (refine za (v:=?_) rfl rfl (λw' h=>?_) (λK k=>?_);rotate_left;obtain⟨f1,f2,f3,_⟩:=h;have e2:=f2.cell;(try have e3:=f3.cell);go_simp;(try with_reducible rfl);go_simp;refine k _ ?_;clear k K))
 refine zf ?_;have cO:=kO.cell;go_wp2_with fail
 refine(hka.out _).mono ?_;rintro e w2⟨rfl,hw2⟩;obtain rfl:=hw2.symm;go_wp2_with fail
 refine(hnd.out _ ((zh.loc B K tv lp S t).below hI1.out (zn (N2 _ _)))).mono ?_;rintro e w2⟨rfl,hw2⟩;obtain rfl:=hw2.symm;go_wp2;go_ret
 exact⟨rfl,ow1,zq.wrap hb1 (by rw [← how.out];exact zq.drew _ _ _),tv,lp,(zh.loc B K tv lp S t).below hI1.out (zn (N2 _ _))⟩
theorem ziR(hG:zr v k0 L S)(hk0:k0<=100000000)(hL:L<=3000000000)(hv:known v=true)(ht:t≠ [])(o:OpD)(ho:zhx o)(k:Nat)(hk:1<=k/\k<=10)(hkd:o.kind=k)(hbad:¬(3<=o.kind/\o.kind<=6)->0<=o.node/\o.node<S.nodes.length)
 (h:zy B K S t ow w) (he:jz w a) (hge:ow 2=[]):Calls prog 14 #[.pointer (some ⟨B,0,none⟩),opV o] w (vu B K (doW (zo v) S o).1 t ow w (.int .i64 (doW (zo v) S o).2)):=by
 have hi:=hbad;unfold opV;obtain⟨knd,nod,A,bit,msk,str⟩:=o;have hb1:Below w.heap.size w (w.alloc (.cells #[.int .i64 knd,.int .i64 nod,.int .i64 A,.int .i64 bit,.int .u32 (msk:Nat),.string (bs str)] 39)):=zg (N2 _ _) _;have hW1:=(zy.loc B K S t).cut h hb1;have kO:Blk (w.alloc (.cells #[.int .i64 knd,.int .i64 nod,.int .i64 A,.int .i64 bit,.int .u32 (msk:Nat),.string (bs str)] 39)) w.heap.size #[.int .i64 knd,.int .i64 nod,.int .i64 A,.int .i64 bit,.int .u32 (msk:Nat),.string (bs str)] 39:=Blk.new rfl;have hom:(ow.cut w) w.heap.size=[]:=Own.cut_new (N0 _);obtain⟨tv,lp,hI1⟩:=hW1;obtain⟨w1,hw1⟩:∃x,x=w.alloc (.cells #[.int .i64 knd,.int .i64 nod,.int .i64 A,.int .i64 bit,.int .u32 (msk:Nat),.string (bs str)] 39):=⟨_,rfl⟩;obtain⟨ow1,how⟩:∃x,x=ow.cut w:=⟨_,rfl⟩;rw [← how] at hI1 hom;rw [← hw1] at hb1 kO hI1;have hni:=xD w1 hI1;have hnd:=λW hW=>x6 (B:=B) (K:=K) (tv:=tv) (lp:=lp) (S:=S) (t:=t) (ow:=ow1) nod W hW
 have hka:=λW=>Jl knd W
 have c5:w1.drew.cell? ⟨B,5,none⟩=some (.map (some K.dm)):=hI1.blk.cell 5;have hdm:zU w1.drew K.dm zfx (YA K.bx):=hI1.does.2.2.1;have hlk:=λW (hW:zU W K.dm zfx (YA K.bx))=>hW.lookup_ok xh Tryz.underlying70 (z:=.nilFunc) (by kernel_rfl) knd
 simp only at hkd hbad;simp only at hi;subst hkd;simp only [zhz K.bx hk] at hlk;have hel:=he.lt;have hWd:zy B K S t ow1 w1.drew:=⟨tv,lp,(zh.loc B K tv lp S t).below hI1 (zn (N2 _ _))⟩;have hst1:zq t ow w ow1 w1.drew:=zq.wrap hb1 (by rw [← how];exact zq.drew _ _ _);have hed:jz w1.drew a:=he.step ht hst1 hge;have hged:ow1 2=[]:=by rw [how,Own.cut_old hel];exact hge
 have hdc:=ziO hG hL hv ht ⟨(k:Int),nod,A,bit,msk,str⟩ ho k hk rfl hi hWd hed hged;have hG2:=hG.deed hL ⟨(k:Int),nod,A,bit,msk,str⟩ ho hi
 have hdo:doW (zo v) S ⟨(k:Int),nod,A,bit,msk,str⟩=if(k:Int)=1/\(yM S (zo v) ⟨(k:Int),nod,A,bit,msk,str⟩).2≠0 then({ZO (yM S (zo v) ⟨(k:Int),nod,A,bit,msk,str⟩).1 with trace:=(ZO (yM S (zo v) ⟨(k:Int),nod,A,bit,msk,str⟩).1).trace++ [(2,nod,((0,0),[]))] },(yM S (zo v) ⟨(k:Int),nod,A,bit,msk,str⟩).2)else(ZO (yM S (zo v) ⟨(k:Int),nod,A,bit,msk,str⟩).1,(yM S (zo v) ⟨(k:Int),nod,A,bit,msk,str⟩).2):=by
  unfold doW;rw [if_neg (by simp only;omega),if_neg (by simp only;omega)]
 obtain⟨⟨S2,er⟩,hdw⟩:∃q,yM S (zo v) ⟨(k:Int),nod,A,bit,msk,str⟩=q:=⟨_,rfl⟩;rw [hdw] at hdc hG2 hdo;simp only at hdc hG2 hdo;have hG4:=hG2.tell;unfold opV at hdc;simp only at hdc;replace hni:=G hni;replace hnd:=G hnd;replace hka:=G hka;replace hlk:=G hlk;replace how:=G how;replace hdw:=G hdw;replace hWd:=G hWd;replace hG2:=G hG2;replace hG4:=G hG4;replace hI1:=G hI1;clear h hbad;have hen:=zbZ hk;have hlk2:=λW hW=>hlk.out W hW
 simp only [xE] at hlk2;clear hlk;obtain⟨fd,hfd⟩:∃f,zfO k=f:=⟨_,rfl⟩;rw [hfd] at hdc hen hlk2;replace hlk2:=G hlk2;replace hdc:=G hdc;replace hfd:=G hfd
 by_cases h36:3<=k/\k<=6
 ·have hnk:¬((k:Int)=1/\er≠0):=by omega
  rw [if_neg hnk] at hdo;have hka2:=λW=>hka.out W
  simp only [show(!(decide (3<=(k:Int))&& decide ((k:Int)<=6)))=false by simp;omega] at hka2;replace hka2:=G hka2;replace hdo:=G hdo;have tk:((k:Int)==1)=false:=by simp;omega
  clear hi hnk hk h36
  go_enter func14,ntmps14
  go_wp2_with fail
  rw [← hw1];clear hw1;refine(hni.out).mono ?_;rintro e w2⟨rfl,hw2⟩;obtain rfl:=hw2.symm;go_wp2_with fail
  refine zd [O 0,O 1,O 2,O 3,O 4,O 5,O 6,O 7,O 8,O 9,O 10,O 11] none (λw'=>w'.cell? ⟨B,5,none⟩=some (.map (some K.dm))/\Blk w' w.heap.size #[.int .i64 (k:Nat),.int .i64 nod,.int .i64 A,.int .i64 bit,.int .u32 (msk:Nat),.string (bs str)] 39/\(Instr.lookup 70 (.map (some K.dm)) (.int .i64 (k:Nat)) true).run prog w'=.ok (.tuple #[.func (.func fd) #[] #[.pointer (some ⟨K.bx,0,none⟩)],.bool true]) w'/\True) (by kernel_rfl) (by kernel_rfl) ⟨c5,kO.drew,hlk2.out _ hdm,trivial⟩ ?_
  (repeat (refine za (v:=?_) rfl rfl (λw' h=>?_) (λK k=>?_);rotate_left;obtain⟨f1,f2,f3,_⟩:=h;have e2:=f2.cell;(try have e3:=f3.cell);go_simp;(try with_reducible rfl);go_simp;refine k _ ?_;clear k K))
  refine zf ?_;have cO:=kO.cell;go_wp2_with fail
  refine(hka2.out _).mono ?_;rintro e w2⟨rfl,hw2⟩;obtain rfl:=hw2.symm;go_wp2_with fail
  refine hdc.out.mono ?_;rintro e w3⟨rfl,ow3,hs3,hW3⟩;have hst3:zq t ow w ow3 w3:=zq.wrap hb1 (by rw [← how.out];exact(zq.drew _ _ _).trans hs3);have kO3:=kO.drew.kept (hs3.block kO.lt (by rw [hom];exact zj ht));have om3:ow3 w.heap.size=[]:=(hs3.agree _ kO.lt).trans hom;have htl:=zbT B K _ hG2.out hk0 t ht ow3 w3 hW3;replace hW3:=G hW3;replace htl:=G htl;go_wp2_with fail
  refine htl.out.mono ?_;rintro e w4⟨rfl,ow4,hs4,tv4,lp4,hI4⟩;have hst4:=hst3.trans hs4;have kO4:=kO3.kept (hs4.block kO3.lt (by rw [om3];exact zj ht));have cO4:=kO4.cell;have om4:ow4 w.heap.size=[]:=(hs4.agree _ kO3.lt).trans om3;clear cO;replace hI4:=G hI4;go_wp2;go_ret
  exact⟨by rw [hdo.out];rfl,ow4,hst4,by rw [hdo.out];exact⟨_,_,hI4.out⟩⟩
 ·have hka2:=λW=>hka.out W
  simp only [show(!(decide (3<=(k:Int))&& decide ((k:Int)<=6)))=true by simp;omega] at hka2;have hnd2:=λW hW=>hnd.out W hW
  have hi':=hi (by omega);simp only [show(decide (0<=nod)&& decide (nod<(S.nodes.length:Int)))=true by simp;omega] at hnd2;replace hka2:=G hka2;replace hnd2:=G hnd2;replace hdo:=G hdo;clear hi hi' h36
  go_enter func14,ntmps14
  go_wp2_with fail
  rw [← hw1];clear hw1;refine(hni.out).mono ?_;rintro e w2⟨rfl,hw2⟩;obtain rfl:=hw2.symm;go_wp2_with fail
  refine zd [O 0,O 1,O 2,O 3,O 4,O 5,O 6,O 7,O 8,O 9,O 10,O 11] none (λw'=>w'.cell? ⟨B,5,none⟩=some (.map (some K.dm))/\Blk w' w.heap.size #[.int .i64 (k:Nat),.int .i64 nod,.int .i64 A,.int .i64 bit,.int .u32 (msk:Nat),.string (bs str)] 39/\(Instr.lookup 70 (.map (some K.dm)) (.int .i64 (k:Nat)) true).run prog w'=.ok (.tuple #[.func (.func fd) #[] #[.pointer (some ⟨K.bx,0,none⟩)],.bool true]) w'/\True) (by kernel_rfl) (by kernel_rfl) ⟨c5,kO.drew,hlk2.out _ hdm,trivial⟩ ?_
  (repeat (refine za (v:=?_) rfl rfl (λw' h=>?_) (λK k=>?_);rotate_left;obtain⟨f1,f2,f3,_⟩:=h;have e2:=f2.cell;(try have e3:=f3.cell);go_simp;(try with_reducible rfl);go_simp;refine k _ ?_;clear k K))
  refine zf ?_;have cO:=kO.cell;go_wp2_with fail
  refine(hka2.out _).mono ?_;rintro e w2⟨rfl,hw2⟩;obtain rfl:=hw2.symm;go_wp2_with fail
  refine(hnd2.out _ ((zh.loc B K tv lp S t).below hI1.out (zn (N2 _ _)))).mono ?_;rintro e w2⟨rfl,hw2⟩;obtain rfl:=hw2.symm;go_wp2_with fail
  refine hdc.out.mono ?_;rintro e w3⟨rfl,ow3,hs3,hW3⟩;have hst3:zq t ow w ow3 w3:=zq.wrap hb1 (by rw [← how.out];exact(zq.drew _ _ _).trans hs3);have kO3:=kO.drew.kept (hs3.block kO.lt (by rw [hom];exact zj ht));have om3:ow3 w.heap.size=[]:=(hs3.agree _ kO.lt).trans hom;have htl:=zbT B K _ hG2.out hk0 t ht ow3 w3 hW3;replace hW3:=G hW3;replace htl:=G htl;go_wp2_with fail
  refine htl.out.mono ?_;rintro e w4⟨rfl,ow4,hs4,tv4,lp4,hI4⟩;have hst4:=hst3.trans hs4;have kO4:=kO3.kept (hs4.block kO3.lt (by rw [om3];exact zj ht));have cO4:=kO4.cell;have om4:ow4 w.heap.size=[]:=(hs4.agree _ kO3.lt).trans om3;clear cO;have hd2:=hdo.out
  by_cases h1:k=1
  ·have tk:((k:Int)==1)=true:=by simp;omega
   by_cases h0:er=0
   ·have te:(er !=0)=false:=by simpa using h0
    rw [if_neg (by simp [h0])] at hd2;clear hdo h0 h1 hk;have hdo:=G hd2;clear hd2;replace hI4:=G hI4;go_wp2;go_ret
    exact⟨by rw [hdo.out];rfl,ow4,hst4,by rw [hdo.out];exact⟨_,_,hI4.out⟩⟩
   ·have te:(er !=0)=true:=by simpa using h0
    rw [if_pos ⟨by omega,h0⟩] at hd2;clear hdo h0 h1 hk;have hdo:=G hd2;clear hd2;have hI4d:=(zh.loc B K tv4 lp4 _ t).below hI4 (zn (N2 _ _));obtain⟨sa,sc,W7,hrun,cB7,fB7,lB7,hkp,ow8,hs8,hW8⟩:=zdi hI4d (i:=nod) (by have:=hG4.out.traceLe;omega);have c6:w4.drew.cell? ⟨B,6,none⟩=some tv4:=hI4d.blk.cell 6;replace hI4:=G hI4;replace hI4d:=G hI4d;replace hrun:=G hrun;have kO7:Blk W7 w.heap.size #[.int .i64 (k:Nat),.int .i64 nod,.int .i64 A,.int .i64 bit,.int .u32 (msk:Nat),.string (bs str)] 39:=kO4.kept (hkp _ kO4.lt om4);replace hkp:=G hkp;replace hW8:=G hW8;replace hs8:=G hs8;go_wp2_with fail
    refine zd [O 0,O 1,O 2,O 3,O 4,O 5,O 6,E 7,E 8,E 9,O 10,O 11,E 12] (some 12) (λw'=>w'.cell? ⟨B,6,none⟩=some tv4/\Blk w' w.heap.size #[.int .i64 (k:Nat),.int .i64 nod,.int .i64 A,.int .i64 bit,.int .u32 (msk:Nat),.string (bs str)] 39/\True) (by kernel_rfl) (by kernel_rfl) ⟨c6,kO4.drew,trivial⟩ ?_
    (repeat (refine za (v:=?_) rfl rfl (λw' h=>?_) (λK k=>?_);rotate_left;obtain⟨f1,f2,f3,_⟩:=h;(try have e1:=f1.cell);(try have e2:=f2.cell);(try have e3:=f3.cell);go_simp;(try with_reducible rfl);go_simp;refine k _ ?_;clear k K))
    refine zc rfl (λJ hJ=>?_);go_wp2;refine hJ.out _ _ (λ_=>⟨c6,kO4.drew,trivial⟩) ?_;clear hJ J;refine zc rfl (λJ hJ=>?_);go_wp2;refine hJ.out _ _ (λ_=>⟨jt (w:=w4) c6 _,(kO4.alloc _).drew,trivial⟩) ?_;clear hJ J;refine zc rfl (λJ hJ=>?_);refine zv rfl _ _ _ rfl rfl rfl hrun.out ?_;unfold wpList;refine hJ.out _ _ (λ_=>⟨cB7,kO7,trivial⟩) ?_;clear hJ J
    (repeat (refine za (v:=?_) rfl rfl (λw' h=>?_) (λK k=>?_);rotate_left;obtain⟨f1,f2,f3,_⟩:=h;(try have e1:=f1.cell);(try have e2:=f2.cell);(try have e3:=f3.cell);go_simp;(try with_reducible rfl);go_simp;refine k _ ?_;clear k K))
    refine zc rfl (λJ hJ=>?_);go_wp2;refine hJ.out _ _ (λhh=>absurd rfl hh) ?_;clear hJ J;refine zf ?_;go_wp2;go_ret
    exact⟨by rw [hdo.out];rfl,ow8,(hst4.trans (zq.drew _ _ _)).trans hs8.out,by rw [hdo.out];exact hW8.out⟩
  ·have tk:((k:Int)==1)=false:=by simp;omega
   rw [if_neg (by omega)] at hd2;clear hdo h1 hk;have hdo:=G hd2;clear hd2;replace hI4:=G hI4;go_wp2;go_ret
   exact⟨by rw [hdo.out];rfl,ow4,hst4,by rw [hdo.out];exact⟨_,_,hI4.out⟩⟩
theorem zdj(hG:zr v k0 L S)(hk0:k0<=100000000)(hL:L<=3000000000)(hv:known v=true)(ht:t≠ [])(o:OpD)(ho:zhx o)(h:zy B K S t ow w)(he:jz w a)(hge:ow 2=[]):
 Calls prog 14 #[.pointer (some ⟨B,0,none⟩),opV o] w (vu B K (doW (zo v) S o).1 t ow w (.int .i64 (doW (zo v) S o).2)):=by
 by_cases h1:o.kind<1∨10<o.kind
 ·have hd:doW (zo v) S o=(S,180):=by unfold doW;rw [if_pos h1]
  rw [hd];exact ziQ o h1 h
 ·have hkd:o.kind=(o.kind.toNat:Nat):=by omega
  by_cases h2:¬(3<=o.kind/\o.kind<=6)/\(o.node<0∨(S.nodes.length:Int)<=o.node)
  ·have hd:doW (zo v) S o=(S,180):=by unfold doW;rw [if_neg h1,if_pos h2]
   rw [hd];exact zjR o _ (by omega) hkd h2 h
  ·exact ziR hG hk0 hL hv ht o ho _ (by omega) hkd (λhn=>by
    have:¬(o.node<0∨(S.nodes.length:Int)<=o.node):=λe=>h2 ⟨hn,e⟩
    omega) h he hge
