/- PARTS OF THE PROOF. -/
import Derived.Test.YtobnhnidffipjaaGreatDoorQ34
import Derived.Test.YtobnhnidffipjaaGreatDoorQ46
set_option maxRecDepth 8000
set_option maxHeartbeats 4000000
open Go.Proofs.Tryz
namespace Go.Proofs.YtobnhnidffipjaaGreatDoor
section
open Go Go.RowKit Go.Shelf Go.Extern.Stop Go.Stop Go.Extern
attribute [local go_sem] Oper.semAt_some zw zn
variable {B:Nat}{K:WK}{S:zj}{v:Int}{k0 L:Nat}{t:List Nat}{ow:Own}{a:Addr}{w:World}
theorem zdm {tv:Value}{lp:Nat->Option Nat}{W:World}(hI:zk B K tv lp S t ow W){i:Int}(hl:S.trace.length<=1000000000):
 ∃sa sc W7,(Builtin.append_ #[27,27] 27 #[tv,.slice (some ⟨W.heap.size,0,none⟩) 1 1]).run prog (W.alloc (.cells #[.int .i64 2,.int .i64 i,.int .i64 0,.int .u32 0,.string ⟨#[]⟩] 36))=.ok (.slice sa (S.trace.length+1) sc) W7/\
  W7.cell? ⟨B,6,none⟩=some tv/\(∀o,W7.frozen? ⟨B,o,none⟩=false)/\B<W7.heap.size/\(∀k,k<W.heap.size->ow k=[] ->W7.heap[k]?=W.heap[k]?)/\
  ∃ow',zq t ow W ow' (W7.setCell ⟨B,6,none⟩ (.slice sa (S.trace.length+1) sc))/\zy B K {S with trace:=S.trace++ [(2,i,((0,0),[]))] } t ow' (W7.setCell ⟨B,6,none⟩ (.slice sa (S.trace.length+1) sc)):=by
 have hb5:Below W.heap.size W (W.alloc (.cells #[.int .i64 2,.int .i64 i,.int .i64 0,.int .u32 0,.string ⟨#[]⟩] 36)):=zg (N2 _ _) _;have k5:Blk (W.alloc (.cells #[.int .i64 2,.int .i64 i,.int .i64 0,.int .u32 0,.string ⟨#[]⟩] 36)) W.heap.size #[.int .i64 2,.int .i64 i,.int .i64 0,.int .u32 0,.string ⟨#[]⟩] 36:=Blk.new rfl;have hsrc5:Src (W.alloc (.cells #[.int .i64 2,.int .i64 i,.int .i64 0,.int .u32 0,.string ⟨#[]⟩] 36)) (.slice (some ⟨W.heap.size,0,none⟩) 1 1) 5 [((2,i,(0,0),[]):zb8)].length ([((2,i,(0,0),[]):zb8)].flatMap jr):=jB (n:=1) (size:=5) (cap:=1) k5 rfl (N0 1);have hI5:=(zk.loc B K tv lp _ t).cut hI hb5;obtain⟨pv',W7,hrun,hrow,hgr,hown⟩:=zI zkW hI5.trow.2 hsrc5 (Zs _) (by simp;omega) 27
 have hrow':Row W7 36 5 pv' (S.trace++ [(2,i,(0,0),[])]).length ((S.trace++ [(2,i,(0,0),[])]).flatMap jr):=by
  rw [N1,U5];exact hrow
 obtain⟨sa,sc,rfl⟩:=hrow'.wideV.shape;obtain⟨ow8,hs8,hfr8,hI8⟩:=hI5.setTrace hrow' hgr hown;simp only [N1,U2] at hs8 hI8 hrun;have k7:=hI5.blk.kept (w':=W7) (hgr.block B hI5.blk.lt (λe=>(hI5.trow.2).ne_blk hI5.blk (by decide) e.symm rfl));exact⟨sa,sc,W7,hrun,k7.cell 6,k7.frozen,k7.lt,λk hk ho=>(hgr.block k (Nat.lt_of_lt_of_le hk hb5.size) (λe=>by have:=hI.trow.1 k e.symm;rw [ho] at this;simp at this)).trans (hb5.block k hk),ow8,zq.wrap hb5 hs8,_,_,hI8⟩
theorem ziZ(o:OpD)(hkd:o.kind<1∨10<o.kind)(h:zy B K S t ow w):Calls prog 14 #[.pointer (some ⟨B,0,none⟩),opV o] w (vi B K S t ow w (.int .i64 180)):=by
 unfold opV;have hbad:=hkd;obtain⟨knd,nod,A,bit,msk,str⟩:=o;have hb1:Below w.heap.size w (w.alloc (.cells #[.int .i64 knd,.int .i64 nod,.int .i64 A,.int .i64 bit,.int .u32 (msk:Nat),.string (bs str)] 39)):=zg (N2 _ _) _;have hW1:=(zy.loc B K S t).cut h hb1;have kO:Blk (w.alloc (.cells #[.int .i64 knd,.int .i64 nod,.int .i64 A,.int .i64 bit,.int .u32 (msk:Nat),.string (bs str)] 39)) w.heap.size #[.int .i64 knd,.int .i64 nod,.int .i64 A,.int .i64 bit,.int .u32 (msk:Nat),.string (bs str)] 39:=Blk.new rfl;have hom:(ow.cut w) w.heap.size=[]:=Own.cut_new (N0 _);obtain⟨tv,lp,hI1⟩:=hW1;obtain⟨w1,hw1⟩:∃x,x=w.alloc (.cells #[.int .i64 knd,.int .i64 nod,.int .i64 A,.int .i64 bit,.int .u32 (msk:Nat),.string (bs str)] 39):=⟨_,rfl⟩;obtain⟨ow1,how⟩:∃x,x=ow.cut w:=⟨_,rfl⟩;rw [← how] at hI1 hom;rw [← hw1] at hb1 kO hI1;have hni:=qL w1 hI1;have hnd:=λW hW=>qN (B:=B) (K:=K) (tv:=tv) (lp:=lp) (S:=S) (t:=t) (ow:=ow1) nod W hW
 have hka:=λW=>Jg knd W
 have c5:w1.drew.cell? ⟨B,5,none⟩=some (.map (some K.dm)):=hI1.blk.cell 5;have hdm:zU w1.drew K.dm zfI (Yy K.bx):=hI1.does.2.2.1;have hlk:=λW (hW:zU W K.dm zfI (Yy K.bx))=>hW.lookup_ok v8 Tryz.underlying70 (z:=.nilFunc) (by kernel_rfl) knd
 simp only at hkd hbad;simp only [zj2 K.bx hkd] at hlk;replace hni:=G hni;replace hnd:=G hnd;replace hka:=G hka;replace hlk:=G hlk;replace how:=G how;replace hI1:=G hI1
 go_enter func14,ntmps14
 go_wp2_with fail
 rw [← hw1];clear hw1;refine(hni.out).mono ?_;rintro e w2⟨rfl,hw2⟩;obtain rfl:=hw2.symm;go_wp2_with fail
 refine zd [O 0,O 1,O 2,O 3,O 4,O 5,O 6,O 7,O 8,O 9,O 10,O 11] none (λw'=>w'.cell? ⟨B,5,none⟩=some (.map (some K.dm))/\Blk w' w.heap.size #[.int .i64 knd,.int .i64 nod,.int .i64 A,.int .i64 bit,.int .u32 (msk:Nat),.string (bs str)] 39/\(Instr.lookup 70 (.map (some K.dm)) (.int .i64 knd) true).run prog w'=.ok (.tuple #[.nilFunc,.bool false]) w'/\True) (by kernel_rfl) (by kernel_rfl) ⟨c5,kO.drew,hlk.out _ hdm,trivial⟩ ?_
 (repeat (refine za (v:=?_) rfl rfl (λw' h=>?_) (λK k=>?_);rotate_left;obtain⟨f1,f2,f3,_⟩:=h;have e2:=f2.cell;(try have e3:=f3.cell);go_simp;(try with_reducible rfl);go_simp;refine k _ ?_;clear k K))
 refine ze ?_;have cO:=kO.cell;go_wp2;go_ret
 exact⟨rfl,ow1,zq.wrap hb1 (by rw [← how.out];exact zq.drew _ _ _),tv,lp,(zk.loc B K tv lp S t).below hI1.out (zo (N2 _ _))⟩
theorem zj4(o:OpD)(k:Nat)(hk:1<=k/\k<=10)(hkd:o.kind=k)(hbad:¬(3<=o.kind/\o.kind<=6)/\(o.node<0∨(S.nodes.length:Int)<=o.node))(h:zy B K S t ow w):Calls prog 14 #[.pointer (some ⟨B,0,none⟩),opV o] w (vi B K S t ow w (.int .i64 180)):=by
 unfold opV;obtain⟨knd,nod,A,bit,msk,str⟩:=o;have hb1:Below w.heap.size w (w.alloc (.cells #[.int .i64 knd,.int .i64 nod,.int .i64 A,.int .i64 bit,.int .u32 (msk:Nat),.string (bs str)] 39)):=zg (N2 _ _) _;have hW1:=(zy.loc B K S t).cut h hb1;have kO:Blk (w.alloc (.cells #[.int .i64 knd,.int .i64 nod,.int .i64 A,.int .i64 bit,.int .u32 (msk:Nat),.string (bs str)] 39)) w.heap.size #[.int .i64 knd,.int .i64 nod,.int .i64 A,.int .i64 bit,.int .u32 (msk:Nat),.string (bs str)] 39:=Blk.new rfl;have hom:(ow.cut w) w.heap.size=[]:=Own.cut_new (N0 _);obtain⟨tv,lp,hI1⟩:=hW1;obtain⟨w1,hw1⟩:∃x,x=w.alloc (.cells #[.int .i64 knd,.int .i64 nod,.int .i64 A,.int .i64 bit,.int .u32 (msk:Nat),.string (bs str)] 39):=⟨_,rfl⟩;obtain⟨ow1,how⟩:∃x,x=ow.cut w:=⟨_,rfl⟩;rw [← how] at hI1 hom;rw [← hw1] at hb1 kO hI1;have hni:=qL w1 hI1;have hnd:=λW hW=>qN (B:=B) (K:=K) (tv:=tv) (lp:=lp) (S:=S) (t:=t) (ow:=ow1) nod W hW
 have hka:=λW=>Jg knd W
 have c5:w1.drew.cell? ⟨B,5,none⟩=some (.map (some K.dm)):=hI1.blk.cell 5;have hdm:zU w1.drew K.dm zfI (Yy K.bx):=hI1.does.2.2.1;have hlk:=λW (hW:zU W K.dm zfI (Yy K.bx))=>hW.lookup_ok v8 Tryz.underlying70 (z:=.nilFunc) (by kernel_rfl) knd
 simp only at hkd hbad;subst hkd;simp only [show(!(decide (3<=(k:Int))&& decide ((k:Int)<=6)))=true by simp;omega] at hka;simp only [show(decide (0<=nod)&& decide (nod<(S.nodes.length:Int)))=false by simp;omega] at hnd;simp only [zhI K.bx hk] at hlk;obtain⟨VV,hVV⟩:∃x,xC K.bx k=x:=⟨_,rfl⟩;simp only [hVV,Option.getD_some,Option.isSome_some] at hlk;replace hVV:=G hVV;replace hni:=G hni;replace hnd:=G hnd;replace hka:=G hka;replace hlk:=G hlk;replace how:=G how;replace hI1:=G hI1;clear hbad
 go_enter func14,ntmps14
 go_wp2_with fail
 rw [← hw1];clear hw1;refine(hni.out).mono ?_;rintro e w2⟨rfl,hw2⟩;obtain rfl:=hw2.symm;go_wp2_with fail
 refine zd [O 0,O 1,O 2,O 3,O 4,O 5,O 6,O 7,O 8,O 9,O 10,O 11] none (λw'=>w'.cell? ⟨B,5,none⟩=some (.map (some K.dm))/\Blk w' w.heap.size #[.int .i64 (k:Nat),.int .i64 nod,.int .i64 A,.int .i64 bit,.int .u32 (msk:Nat),.string (bs str)] 39/\(Instr.lookup 70 (.map (some K.dm)) (.int .i64 (k:Nat)) true).run prog w'=.ok (.tuple #[VV,.bool true]) w'/\True) (by kernel_rfl) (by kernel_rfl) ⟨c5,kO.drew,hlk.out _ hdm,trivial⟩ ?_
 (repeat (refine za (v:=?_) rfl rfl (λw' h=>?_) (λK k=>?_);rotate_left;obtain⟨f1,f2,f3,_⟩:=h;have e2:=f2.cell;(try have e3:=f3.cell);go_simp;(try with_reducible rfl);go_simp;refine k _ ?_;clear k K))
 refine ze ?_;have cO:=kO.cell;go_wp2_with fail
 refine(hka.out _).mono ?_;rintro e w2⟨rfl,hw2⟩;obtain rfl:=hw2.symm;go_wp2_with fail
 refine(hnd.out _ ((zk.loc B K tv lp S t).below hI1.out (zo (N2 _ _)))).mono ?_;rintro e w2⟨rfl,hw2⟩;obtain rfl:=hw2.symm;go_wp2;go_ret
 exact⟨rfl,ow1,zq.wrap hb1 (by rw [← how.out];exact zq.drew _ _ _),tv,lp,(zk.loc B K tv lp S t).below hI1.out (zo (N2 _ _))⟩
theorem zi0(hG:zr v k0 L S)(hk0:k0<=100000000)(hL:L<=3000000000)(hv:known v=true)(ht:t≠ [])(o:OpD)(ho:zhH o)(k:Nat)(hk:1<=k/\k<=10)(hkd:o.kind=k)(hbad:¬(3<=o.kind/\o.kind<=6)->0<=o.node/\o.node<S.nodes.length)
 (h:zy B K S t ow w) (he:jA w a) (hge:ow 2=[]):Calls prog 14 #[.pointer (some ⟨B,0,none⟩),opV o] w (vi B K (doW (zp v) S o).1 t ow w (.int .i64 (doW (zp v) S o).2)):=by
 have hi:=hbad;unfold opV;obtain⟨knd,nod,A,bit,msk,str⟩:=o;have hb1:Below w.heap.size w (w.alloc (.cells #[.int .i64 knd,.int .i64 nod,.int .i64 A,.int .i64 bit,.int .u32 (msk:Nat),.string (bs str)] 39)):=zg (N2 _ _) _;have hW1:=(zy.loc B K S t).cut h hb1;have kO:Blk (w.alloc (.cells #[.int .i64 knd,.int .i64 nod,.int .i64 A,.int .i64 bit,.int .u32 (msk:Nat),.string (bs str)] 39)) w.heap.size #[.int .i64 knd,.int .i64 nod,.int .i64 A,.int .i64 bit,.int .u32 (msk:Nat),.string (bs str)] 39:=Blk.new rfl;have hom:(ow.cut w) w.heap.size=[]:=Own.cut_new (N0 _);obtain⟨tv,lp,hI1⟩:=hW1;obtain⟨w1,hw1⟩:∃x,x=w.alloc (.cells #[.int .i64 knd,.int .i64 nod,.int .i64 A,.int .i64 bit,.int .u32 (msk:Nat),.string (bs str)] 39):=⟨_,rfl⟩;obtain⟨ow1,how⟩:∃x,x=ow.cut w:=⟨_,rfl⟩;rw [← how] at hI1 hom;rw [← hw1] at hb1 kO hI1;have hni:=qL w1 hI1;have hnd:=λW hW=>qN (B:=B) (K:=K) (tv:=tv) (lp:=lp) (S:=S) (t:=t) (ow:=ow1) nod W hW
 have hka:=λW=>Jg knd W
 have c5:w1.drew.cell? ⟨B,5,none⟩=some (.map (some K.dm)):=hI1.blk.cell 5;have hdm:zU w1.drew K.dm zfI (Yy K.bx):=hI1.does.2.2.1;have hlk:=λW (hW:zU W K.dm zfI (Yy K.bx))=>hW.lookup_ok v8 Tryz.underlying70 (z:=.nilFunc) (by kernel_rfl) knd
 simp only at hkd hbad;simp only at hi;subst hkd;simp only [zhI K.bx hk] at hlk;have hel:=he.lt;have hWd:zy B K S t ow1 w1.drew:=⟨tv,lp,(zk.loc B K tv lp S t).below hI1 (zo (N2 _ _))⟩;have hst1:zq t ow w ow1 w1.drew:=zq.wrap hb1 (by rw [← how];exact zq.drew _ _ _);have hed:jA w1.drew a:=he.step ht hst1 hge;have hged:ow1 2=[]:=by rw [how,Own.cut_old hel];exact hge
 have hdc:=ziY hG hL hv ht ⟨(k:Int),nod,A,bit,msk,str⟩ ho k hk rfl hi hWd hed hged;have hG2:=hG.deed hL ⟨(k:Int),nod,A,bit,msk,str⟩ ho hi
 have hdo:doW (zp v) S ⟨(k:Int),nod,A,bit,msk,str⟩=if(k:Int)=1/\(yK S (zp v) ⟨(k:Int),nod,A,bit,msk,str⟩).2≠0 then({ZN (yK S (zp v) ⟨(k:Int),nod,A,bit,msk,str⟩).1 with trace:=(ZN (yK S (zp v) ⟨(k:Int),nod,A,bit,msk,str⟩).1).trace++ [(2,nod,((0,0),[]))] },(yK S (zp v) ⟨(k:Int),nod,A,bit,msk,str⟩).2)else(ZN (yK S (zp v) ⟨(k:Int),nod,A,bit,msk,str⟩).1,(yK S (zp v) ⟨(k:Int),nod,A,bit,msk,str⟩).2):=by
  unfold doW;rw [if_neg (by simp only;omega),if_neg (by simp only;omega)]
 obtain⟨⟨S2,er⟩,hdw⟩:∃q,yK S (zp v) ⟨(k:Int),nod,A,bit,msk,str⟩=q:=⟨_,rfl⟩;rw [hdw] at hdc hG2 hdo;simp only at hdc hG2 hdo;have hG4:=hG2.tell;unfold opV at hdc;simp only at hdc;replace hni:=G hni;replace hnd:=G hnd;replace hka:=G hka;replace hlk:=G hlk;replace how:=G how;replace hdw:=G hdw;replace hWd:=G hWd;replace hG2:=G hG2;replace hG4:=G hG4;replace hI1:=G hI1;clear h hbad;have hen:=zb1 hk;have hlk2:=λW hW=>hlk.out W hW
 simp only [xC] at hlk2;clear hlk;obtain⟨fd,hfd⟩:∃f,zfZ k=f:=⟨_,rfl⟩;rw [hfd] at hdc hen hlk2;replace hlk2:=G hlk2;replace hdc:=G hdc;replace hfd:=G hfd
 by_cases h36:3<=k/\k<=6
 ·have hnk:¬((k:Int)=1/\er≠0):=by omega
  rw [if_neg hnk] at hdo;have hka2:=λW=>hka.out W
  simp only [show(!(decide (3<=(k:Int))&& decide ((k:Int)<=6)))=false by simp;omega] at hka2;replace hka2:=G hka2;replace hdo:=G hdo;have tk:((k:Int)==1)=false:=by simp;omega
  clear hi hnk hk h36
  go_enter func14,ntmps14
  go_wp2_with fail
  rw [← hw1];clear hw1;refine(hni.out).mono ?_;rintro e w2⟨rfl,hw2⟩;obtain rfl:=hw2.symm;go_wp2_with fail
  refine zd [O 0,O 1,O 2,O 3,O 4,O 5,O 6,O 7,O 8,O 9,O 10,O 11] none (λw'=>w'.cell? ⟨B,5,none⟩=some (.map (some K.dm))/\Blk w' w.heap.size #[.int .i64 (k:Nat),.int .i64 nod,.int .i64 A,.int .i64 bit,.int .u32 (msk:Nat),.string (bs str)] 39/\(Instr.lookup 70 (.map (some K.dm)) (.int .i64 (k:Nat)) true).run prog w'=.ok (.tuple #[.func (.func fd) #[] #[.pointer (some ⟨K.bx,0,none⟩)],.bool true]) w'/\True) (by kernel_rfl) (by kernel_rfl) ⟨c5,kO.drew,hlk2.out _ hdm,trivial⟩ ?_
  (repeat (refine za (v:=?_) rfl rfl (λw' h=>?_) (λK k=>?_);rotate_left;obtain⟨f1,f2,f3,_⟩:=h;have e2:=f2.cell;(try have e3:=f3.cell);go_simp;(try with_reducible rfl);go_simp;refine k _ ?_;clear k K))
  refine ze ?_;have cO:=kO.cell;go_wp2_with fail
  refine(hka2.out _).mono ?_;rintro e w2⟨rfl,hw2⟩;obtain rfl:=hw2.symm;go_wp2_with fail
  refine hdc.out.mono ?_;rintro e w3⟨rfl,ow3,hs3,hW3⟩;have hst3:zq t ow w ow3 w3:=zq.wrap hb1 (by rw [← how.out];exact(zq.drew _ _ _).trans hs3);have kO3:=kO.drew.kept (hs3.block kO.lt (by rw [hom];exact zi ht));have om3:ow3 w.heap.size=[]:=(hs3.agree _ kO.lt).trans hom;have htl:=zbX B K _ hG2.out hk0 t ht ow3 w3 hW3;replace hW3:=G hW3;replace htl:=G htl;go_wp2_with fail
  refine htl.out.mono ?_;rintro e w4⟨rfl,ow4,hs4,tv4,lp4,hI4⟩;have hst4:=hst3.trans hs4;have kO4:=kO3.kept (hs4.block kO3.lt (by rw [om3];exact zi ht));have cO4:=kO4.cell;have om4:ow4 w.heap.size=[]:=(hs4.agree _ kO3.lt).trans om3;clear cO;replace hI4:=G hI4;go_wp2;go_ret
  exact⟨by rw [hdo.out];rfl,ow4,hst4,by rw [hdo.out];exact⟨_,_,hI4.out⟩⟩
 ·have hka2:=λW=>hka.out W
  simp only [show(!(decide (3<=(k:Int))&& decide ((k:Int)<=6)))=true by simp;omega] at hka2;have hnd2:=λW hW=>hnd.out W hW
  have hi':=hi (by omega);simp only [show(decide (0<=nod)&& decide (nod<(S.nodes.length:Int)))=true by simp;omega] at hnd2;replace hka2:=G hka2;replace hnd2:=G hnd2;replace hdo:=G hdo;clear hi hi' h36
  go_enter func14,ntmps14
  go_wp2_with fail
  rw [← hw1];clear hw1;refine(hni.out).mono ?_;rintro e w2⟨rfl,hw2⟩;obtain rfl:=hw2.symm;go_wp2_with fail
  refine zd [O 0,O 1,O 2,O 3,O 4,O 5,O 6,O 7,O 8,O 9,O 10,O 11] none (λw'=>w'.cell? ⟨B,5,none⟩=some (.map (some K.dm))/\Blk w' w.heap.size #[.int .i64 (k:Nat),.int .i64 nod,.int .i64 A,.int .i64 bit,.int .u32 (msk:Nat),.string (bs str)] 39/\(Instr.lookup 70 (.map (some K.dm)) (.int .i64 (k:Nat)) true).run prog w'=.ok (.tuple #[.func (.func fd) #[] #[.pointer (some ⟨K.bx,0,none⟩)],.bool true]) w'/\True) (by kernel_rfl) (by kernel_rfl) ⟨c5,kO.drew,hlk2.out _ hdm,trivial⟩ ?_
  (repeat (refine za (v:=?_) rfl rfl (λw' h=>?_) (λK k=>?_);rotate_left;obtain⟨f1,f2,f3,_⟩:=h;have e2:=f2.cell;(try have e3:=f3.cell);go_simp;(try with_reducible rfl);go_simp;refine k _ ?_;clear k K))
  refine ze ?_;have cO:=kO.cell;go_wp2_with fail
  refine(hka2.out _).mono ?_;rintro e w2⟨rfl,hw2⟩;obtain rfl:=hw2.symm;go_wp2_with fail
  refine(hnd2.out _ ((zk.loc B K tv lp S t).below hI1.out (zo (N2 _ _)))).mono ?_;rintro e w2⟨rfl,hw2⟩;obtain rfl:=hw2.symm;go_wp2_with fail
  refine hdc.out.mono ?_;rintro e w3⟨rfl,ow3,hs3,hW3⟩;have hst3:zq t ow w ow3 w3:=zq.wrap hb1 (by rw [← how.out];exact(zq.drew _ _ _).trans hs3);have kO3:=kO.drew.kept (hs3.block kO.lt (by rw [hom];exact zi ht));have om3:ow3 w.heap.size=[]:=(hs3.agree _ kO.lt).trans hom;have htl:=zbX B K _ hG2.out hk0 t ht ow3 w3 hW3;replace hW3:=G hW3;replace htl:=G htl;go_wp2_with fail
  refine htl.out.mono ?_;rintro e w4⟨rfl,ow4,hs4,tv4,lp4,hI4⟩;have hst4:=hst3.trans hs4;have kO4:=kO3.kept (hs4.block kO3.lt (by rw [om3];exact zi ht));have cO4:=kO4.cell;have om4:ow4 w.heap.size=[]:=(hs4.agree _ kO3.lt).trans om3;clear cO;have hd2:=hdo.out
  by_cases h1:k=1
  ·have tk:((k:Int)==1)=true:=by simp;omega
   by_cases h0:er=0
   ·have te:(er !=0)=false:=by simpa using h0
    rw [if_neg (by simp [h0])] at hd2;clear hdo h0 h1 hk;have hdo:=G hd2;clear hd2;replace hI4:=G hI4;go_wp2;go_ret
    exact⟨by rw [hdo.out];rfl,ow4,hst4,by rw [hdo.out];exact⟨_,_,hI4.out⟩⟩
   ·have te:(er !=0)=true:=by simpa using h0
    rw [if_pos ⟨by omega,h0⟩] at hd2;clear hdo h0 h1 hk;have hdo:=G hd2;clear hd2;have hI4d:=(zk.loc B K tv4 lp4 _ t).below hI4 (zo (N2 _ _));obtain⟨sa,sc,W7,hrun,cB7,fB7,lB7,hkp,ow8,hs8,hW8⟩:=zdm hI4d (i:=nod) (by have:=hG4.out.traceLe;omega);have c6:w4.drew.cell? ⟨B,6,none⟩=some tv4:=hI4d.blk.cell 6;replace hI4:=G hI4;replace hI4d:=G hI4d;replace hrun:=G hrun;have kO7:Blk W7 w.heap.size #[.int .i64 (k:Nat),.int .i64 nod,.int .i64 A,.int .i64 bit,.int .u32 (msk:Nat),.string (bs str)] 39:=kO4.kept (hkp _ kO4.lt om4);replace hkp:=G hkp;replace hW8:=G hW8;replace hs8:=G hs8;go_wp2_with fail
    refine zd [O 0,O 1,O 2,O 3,O 4,O 5,O 6,E 7,E 8,E 9,O 10,O 11,E 12] (some 12) (λw'=>w'.cell? ⟨B,6,none⟩=some tv4/\Blk w' w.heap.size #[.int .i64 (k:Nat),.int .i64 nod,.int .i64 A,.int .i64 bit,.int .u32 (msk:Nat),.string (bs str)] 39/\True) (by kernel_rfl) (by kernel_rfl) ⟨c6,kO4.drew,trivial⟩ ?_
    (repeat (refine za (v:=?_) rfl rfl (λw' h=>?_) (λK k=>?_);rotate_left;obtain⟨f1,f2,f3,_⟩:=h;(try have e1:=f1.cell);(try have e2:=f2.cell);(try have e3:=f3.cell);go_simp;(try with_reducible rfl);go_simp;refine k _ ?_;clear k K))
    refine zc rfl (λJ hJ=>?_);go_wp2;refine hJ.out _ _ (λ_=>⟨c6,kO4.drew,trivial⟩) ?_;clear hJ J;refine zc rfl (λJ hJ=>?_);go_wp2;refine hJ.out _ _ (λ_=>⟨jx (w:=w4) c6 _,(kO4.alloc _).drew,trivial⟩) ?_;clear hJ J;refine zc rfl (λJ hJ=>?_);refine zu rfl _ _ _ rfl rfl rfl hrun.out ?_;unfold wpList;refine hJ.out _ _ (λ_=>⟨cB7,kO7,trivial⟩) ?_;clear hJ J
    (repeat (refine za (v:=?_) rfl rfl (λw' h=>?_) (λK k=>?_);rotate_left;obtain⟨f1,f2,f3,_⟩:=h;(try have e1:=f1.cell);(try have e2:=f2.cell);(try have e3:=f3.cell);go_simp;(try with_reducible rfl);go_simp;refine k _ ?_;clear k K))
    refine zc rfl (λJ hJ=>?_);go_wp2;refine hJ.out _ _ (λhh=>absurd rfl hh) ?_;clear hJ J;refine ze ?_;go_wp2;go_ret
    exact⟨by rw [hdo.out];rfl,ow8,(hst4.trans (zq.drew _ _ _)).trans hs8.out,by rw [hdo.out];exact hW8.out⟩
  ·have tk:((k:Int)==1)=false:=by simp;omega
   rw [if_neg (by omega)] at hd2;clear hdo h1 hk;have hdo:=G hd2;clear hd2;replace hI4:=G hI4;go_wp2;go_ret
   exact⟨by rw [hdo.out];rfl,ow4,hst4,by rw [hdo.out];exact⟨_,_,hI4.out⟩⟩
theorem zdn(hG:zr v k0 L S)(hk0:k0<=100000000)(hL:L<=3000000000)(hv:known v=true)(ht:t≠ [])(o:OpD)(ho:zhH o)(h:zy B K S t ow w)(he:jA w a)(hge:ow 2=[]):
 Calls prog 14 #[.pointer (some ⟨B,0,none⟩),opV o] w (vi B K (doW (zp v) S o).1 t ow w (.int .i64 (doW (zp v) S o).2)):=by
 by_cases h1:o.kind<1∨10<o.kind
 ·have hd:doW (zp v) S o=(S,180):=by unfold doW;rw [if_pos h1]
  rw [hd];exact ziZ o h1 h
 ·have hkd:o.kind=(o.kind.toNat:Nat):=by omega
  by_cases h2:¬(3<=o.kind/\o.kind<=6)/\(o.node<0∨(S.nodes.length:Int)<=o.node)
  ·have hd:doW (zp v) S o=(S,180):=by unfold doW;rw [if_neg h1,if_pos h2]
   rw [hd];exact zj4 o _ (by omega) hkd h2 h
  ·exact zi0 hG hk0 hL hv ht o ho _ (by omega) hkd (λhn=>by
    have:¬(o.node<0∨(S.nodes.length:Int)<=o.node):=λe=>h2 ⟨hn,e⟩
    omega) h he hge
end
section
open Go Go.RowKit
variable {P:Program}{ops:Array Oper}{Q:Exit->Act->World->Prop}
theorem zax {m:Nat}{listed:Array Bool}(R:List Nat)(fr:(Nat->Value)->Act)(g0:Nat->Value)(vf:Nat->Nat->Value)(obj:Nat->Obj)(W0:World)(hok:zc8 ops listed R=true)
 (hrun:∀i∈R,∀g W,wpOp P ops (λ_ _ _=>False) i (λa' w'=>a'=fr (λj=>if j=i then vf i W.heap.size else g j)/\w'=W.alloc (obj i)) (fr g) W)
 (hend:∀(h:Nat->Nat) W,(∀i∈R,W.heap[h i]?=some (obj i)/\W0.heap.size<=h i)->(∀i∈R,∀j∈R,i≠j->h i≠h j)->Below W0.heap.size W0 W->yv P ops (ji Q) Qv none m (zfJ listed R []) (fr λi=>vf i (h i)) W):
 ∀(n:Nat)(rest:List Nat)(W:World)(h:Nat->Nat),rest.length=n->rest∈zaj R->(∀i∈R,i∉rest->W.heap[h i]?=some (obj i)/\W0.heap.size<=h i)->(∀i∈R,i∉rest->∀j∈R,j∉rest->i≠j->h i≠h j)->Below W0.heap.size W0 W->yv P ops (ji Q) Qv none (n+m) (zfJ listed R rest) (fr λi=>if i∈rest then g0 i else vf i (h i)) W:=by
 intro n
 induction n with
 |zero=>
  intro rest W h hl hs hR hd hb;obtain rfl:=N9 hl;rw [Nat.zero_add];simp only [List.not_mem_nil,if_false];exact hend h W (λi hi=>hR i hi (by simp)) (λi hi j hj=>hd i hi (by simp) j hj (by simp)) hb
 |succ n ih=>
  intro rest W g hl hs hR hd hb;have h1:=hok;unfold zc8 at h1;rw [List.all_eq_true] at h1;have h2:=h1 rest hs;rw [Bool.or_eq_true] at h2
  rcases h2 with h2|h2
  ·have:rest=[]:=by simpa using h2
   subst this;simp at hl
  ·simp only [Bool.and_eq_true,decide_eq_true_eq,List.all_eq_true] at h2
   obtain⟨h3,h4⟩:=h2;rw [show n+1+m=(n+m)+1 by omega];refine⟨λh0=>(by rw [h3] at h0;subst h0;simp at hl),λi hi=>?_⟩;rw [h3] at hi;obtain⟨⟨⟨h5,h6⟩,h7⟩,h8⟩:=h4 i hi;have hiR:i∈R:=by simpa using h5
   refine vT (wpOp_mono (λa' w' h=>?_) (hrun i hiR _ W));obtain⟨rfl,rfl⟩:=h;refine⟨λ_=>trivial,?_⟩;rw [h6];have hold:∀j∈R,j∉rest.filter (· !=i)->j≠i->j∉rest:=λj hj hjn hji h=>hjn (by simp [h,hji])
   have hfn:(λj=>if j=i then vf i W.heap.size else if j∈rest then g0 j else vf j (g j))=λj=>if j∈rest.filter (· !=i)then g0 j else vf j (if j=i then W.heap.size else g j):=by
    funext j
    by_cases hji:j=i
    ·subst hji;simp
    ·by_cases hjr:j∈rest<;>simp [hji,hjr]
   rw [hfn];refine ih _ _ _ (by omega) (by simpa using h7) (λj hj hjn=>?_) (λj hj hjn j' hj' hjn' hne=>?_) (hb.alloc hb.size _)
   ·by_cases hji:j=i
    ·subst hji
     simp only [if_true];exact⟨World.alloc_heap_new W _,hb.size⟩
    ·simp only [if_neg hji]
     have h:=hR j hj (hold j hj hjn hji);exact⟨(U4 W _ _ (N5.1 h.1).1).trans h.1,h.2⟩
   ·have hlt:∀x∈R,x∉rest->g x<W.heap.size:=λx hx hxr=>(N5.1 (hR x hx hxr).1).1
    by_cases hji:j=i
    ·subst hji
     simp only [if_true,if_neg (Ne.symm hne)];have:=hlt j' hj' (hold j' hj' hjn' (Ne.symm hne));omega
    ·by_cases hji':j'=i
     ·subst hji'
      simp only [if_true,if_neg hji];have:=hlt j hj (hold j hj hjn hji);omega
     ·simp only [if_neg hji,if_neg hji']
      exact hd j hj (hold j hj hjn hji) j' hj' (hold j' hj' hjn' hji') hne
theorem zhJ {m:Nat}{listed:Array Bool}{w:World}(R:List Nat)(fr:(Nat->Value)->Act)(g0:Nat->Value)(vf:Nat->Nat->Value)(obj:Nat->Obj)(hok:(zc8 ops listed R && decide (R∈zaj R)&& decide (zfJ listed R R=listed))=true)(hfr:∀g g',(∀i∈R,g i=g' i)->fr g=fr g')
 (hrun:∀i∈R,∀g W,wpOp P ops (λ_ _ _=>False) i (λa' w'=>a'=fr (λj=>if j=i then vf i W.heap.size else g j)/\w'=W.alloc (obj i)) (fr g) W)
 (hend:∀(h:Nat->Nat) W,(∀i∈R,W.heap[h i]?=some (obj i)/\w.heap.size<=h i)->(∀i∈R,∀j∈R,i≠j->h i≠h j)->Below w.heap.size w W->yv P ops (ji Q) Qv none m (zfJ listed R []) (fr λi=>vf i (h i)) W):yv P ops (ji Q) Qv none (R.length+m) listed (fr g0) w:=by
 simp only [Bool.and_eq_true,decide_eq_true_eq] at hok;obtain⟨⟨h1,h2⟩,h3⟩:=hok;have:=zax R fr g0 vf obj w h1 hrun hend R.length R w (λ_=>0) rfl h2 (λi hi hn=>absurd hi hn) (λi hi hn=>absurd hi hn) (N2 _ _);rw [h3,hfr (λi=>if i∈R then g0 i else vf i 0) g0 (λi hi=>by simp [hi])] at this;exact this
def frp(a:Act)(d:Nat->Nat)(R:List Nat)(g:Nat->Value):Act:={a with tmps:=R.foldl (λt i=>t.setIfInBounds (d i) (g i)) a.tmps}
theorem zhK(a:Act)(d:Nat->Nat)(R:List Nat)(g g':Nat->Value)(h:∀i∈R,g i=g' i):frp a d R g=frp a d R g':=by
 unfold frp
 congr 1
 generalize a.tmps=t
 induction R generalizing t with
 |nil=>rfl
 |cons i R ih=>rw [List.foldl_cons,List.foldl_cons,h i (by simp)];exact ih (λj hj=>h j (by simp [hj])) _
theorem QE {m:Nat}{listed:Array Bool}{a:Act}{w:World}(R:List Nat)(d:Nat->Nat)(g0:Nat->Value)(vf:Nat->Nat->Value)(obj:Nat->Obj)(hok:(zc8 ops listed R && decide (R∈zaj R)&& decide (zfJ listed R R=listed))=true)(h0:frp a d R g0=a)
 (hrun:∀i∈R,∀g W,wpOp P ops (λ_ _ _=>False) i (λa' w'=>a'=frp a d R (λj=>if j=i then vf i W.heap.size else g j)/\w'=W.alloc (obj i)) (frp a d R g) W)
 (hend:∀(h:Nat->Nat) W,(∀i∈R,W.heap[h i]?=some (obj i)/\w.heap.size<=h i)->(∀i∈R,∀j∈R,i≠j->h i≠h j)->Below w.heap.size w W->yv P ops (ji Q) Qv none m (zfJ listed R []) (frp a d R λi=>vf i (h i)) W):yv P ops (ji Q) Qv none (R.length+m) listed a w:=by
 have:=zhJ R (frp a d R) g0 vf obj hok (zhK a d R) hrun hend
 rwa [h0] at this
end
open Go Go.RowKit Go.Shelf Go.Extern.Stop Go.Stop Go.Extern
attribute [local go_sem] Oper.semAt_some zw zn
theorem zkA:Ju prog 65 48 1 8 (.pointer none):=⟨Tryz.underlying65,by kernel_rfl,rfl,by decide,by decide⟩
theorem zb2(l:List Nat):∀u∈vk l,u.oneCell'=true:=by
 intro u hu;obtain⟨m,_,rfl⟩:=List.mem_map.1 hu;rfl
def Zt(n:Nat):Array Value:=((List.replicate n zc3).flatMap jU).toArray
theorem zjl:Ju prog 66 86 5 32 (.agg #[.int .u64 0,.int .i64 0,.int .i64 0,.bool false,.bool false]):=⟨Tryz.underlying66,by kernel_rfl,rfl,by decide,by decide⟩
theorem zf3(n:Nat)(hn:n<=16):madeCells #[.int .u64 0,.int .i64 0,.int .i64 0,.bool false,.bool false] (n*5)=Zt n:=by
 rcases(by omega:n=0∨n=1∨n=2∨n=3∨n=4∨n=5∨n=6∨n=7∨n=8∨n=9∨n=10∨n=11∨n=12∨n=13∨n=14∨n=15∨n=16)with rfl|rfl|rfl|rfl|rfl|rfl|rfl|rfl|rfl|rfl|rfl|rfl|rfl|rfl|rfl|rfl|rfl<;>kernel_rfl
theorem QF(n:Nat)(hn:n<=16)(W:World):(Instr.makeSlice 66 (.int .i64 (n:Nat)) (.int .i64 (n:Nat))).run prog W=.ok (.slice (some ⟨W.heap.size,0,none⟩) n n) (W.alloc (.cells (Zt n) 86)):=by
 obtain⟨i,hi,hz0,hz1,hz2⟩:=info_parts zjl.info;have h:=run_makeSlice (P:=prog) (w:=W) 66 86 i _ zjl.under hi hz0 .i64 .i64 (n:Nat) (n:Nat) (by omega) (Int.le_refl _) (by rw [hz1];omega) (by rw [hz2];omega) (by omega);simp only [Int.toNat_natCast,hz1] at h;rw [h,← zf3 n hn];rfl
structure Yb(B sb lm fb hm n:Nat)(v cap:Int)(nv:Value)(nl:List Nat)(t:List Nat)(ow:Own)(W:World):Prop where
 blk:Blk W B #[nv,.slice (some ⟨sb,0,none⟩) n n,.map (some lm),.pointer (some ⟨fb,0,none⟩),.map (some hm),.map none,.slice none 0 0] 72
 own:ow B=t
 row:Row W 48 1 nv nl.length (vk nl)
 rown:∀g,nv.ownBlock=some g->ow g=t++ [20]
 nodes:∀(i:Nat) b,nl[i]?=some b->jv b (zhU i v cap [] (zp v)) (t++ [i]) ow W
 sk:Blk W sb (Zt n) 86
 so:ow sb=t++ [21]
 lk:zU W lm Yx []
 lo:ow lm=t++ [17]
 hk:zU W hm Qw []
 ho:ow hm=t++ [18]
 fl:jk fb 0 [] (t++ [16]) ow W
theorem Yb.loc(B sb lm fb hm n:Nat)(v cap:Int)(nv:Value)(nl:List Nat)(t:List Nat):yH t (Yb B sb lm fb hm n v cap nv nl t):=by
 intro ow ow' W W' h hs hk;have kk:∀k i,k<W.heap.size->ow k=t++ [i] ->ow' k=ow k/\W'.heap[k]?=W.heap[k]?:=λk i h1 h2=>hk k h1 (by rw [h2];exact Sub.child t i)
 have kB:=hk B h.blk.lt (by rw [h.own];exact Sub.rfl' t);have ks:=kk sb 21 h.sk.lt h.so;have kl:=kk lm 17 h.lk.lt h.lo;have kh:=kk hm 18 h.hk.lt h.ho;have kr:=λg hg=>kk g 20 (h.row.lt hg) (h.rown g hg)
 exact⟨h.blk.kept kB.2,kB.1.trans h.own,h.row.kept (λg hg=>(kr g hg).2),λg hg=>(kr g hg).1.trans (h.rown g hg),
  λi b hb=>jv.loc _ _ _ _ _ _ _ (h.nodes i b hb) hs (λk h1 h2=>hk k h1 ((Sub.child t i).trans h2)),
  h.sk.kept ks.2,ks.1.trans h.so,h.lk.kept kl.2,kl.1.trans h.lo,h.hk.kept kh.2,kh.1.trans h.ho,jk.loc _ _ _ _ _ _ _ _ h.fl hs (λk h1 h2=>hk k h1 ((Sub.child t 16).trans h2))⟩
theorem Yb.push {B sb lm fb hm n:Nat}{v cap:Int}{nv nv':Value}{nl:List Nat}{t:List Nat}{ow:Own}{W W7:World}(h:Yb B sb lm fb hm n v cap nv nl t ow W){b:Nat}(hN:jv b (zhU nl.length v cap [] (zp v)) (t++ [nl.length]) ow W)(hl:nl.length<16)
 (hrow:Row W7 48 1 nv' (nl++ [b]).length (vk (nl++ [b]))) (hgr:W.grownBy W7 nv.ownBlock) (hown:nv'.ownBlock=nv.ownBlock∨nv'.ownBlock=some W.heap.size):
 zq t ow W (ow.ext W.heap.size (λk=>nv'.ownBlock=some k) (t++ [20])) (W7.setCell ⟨B,0,none⟩ nv')/\Yb B sb lm fb hm n v cap nv' (nl++ [b]) t (ow.ext W.heap.size (λk=>nv'.ownBlock=some k) (t++ [20])) (W7.setCell ⟨B,0,none⟩ nv'):=by
 have hneB:∀g,nv.ownBlock=some g->g≠B:=λg hg=>h.row.ne_blk h.blk (by decide) hg
 have lB:=h.blk.lt
 have hg5:∀g,nv'.ownBlock=some g->(nv.ownBlock=some g∨g=W.heap.size):=λg hg=>by
  rw [hg] at hown
  rcases hown with h|h
  ·exact .inl h.symm
  ·right;simpa using h
 have k7:=h.blk.kept (w':=W7) (hgr.block B lB (λe=>hneB B e.symm rfl))
 have hneB':∀g,nv'.ownBlock=some g->g≠B:=λg hg e=>by
  rcases hg5 g hg with h1|h1
  ·exact hneB g h1 e
  ·omega
 have hst:zq t ow W (ow.ext W.heap.size (λk=>nv'.ownBlock=some k) (t++ [20])) (W7.setCell ⟨B,0,none⟩ nv'):=
  ⟨(Mod.grown (X:=λk=>Sub t (ow k)) hgr (λk hk=>by rw [h.rown k hk];exact Sub.child t 20)).thenSet (p:=⟨B,0,none⟩) (by simp only [h.own];exact Sub.rfl' t) _,λk hk=>Own.ext_old hk⟩
 have hkp:∀j,j≠20->∀k,k<W.heap.size->Sub (t++ [j]) (ow k)->(ow.ext W.heap.size (λk=>nv'.ownBlock=some k) (t++ [20])) k=ow k/\(W7.setCell ⟨B,0,none⟩ nv').heap[k]?=W.heap[k]?:=λj hj k hk hs=>by
  refine⟨Own.ext_old hk,?_⟩;have hkB:k≠B:=λe=>by rw [e,h.own] at hs;exact zN t j hs
  rw [N4 _ _ _ _ hkB];refine hgr.block k hk (λe=>?_);rw [h.rown k e.symm] at hs;exact(zM t hj).1 hs
 have k1:∀k j,j≠20->k<W.heap.size->ow k=t++ [j] ->(ow.ext W.heap.size (λk=>nv'.ownBlock=some k) (t++ [20])) k=ow k/\(W7.setCell ⟨B,0,none⟩ nv').heap[k]?=W.heap[k]?:=λk j hj hk ho=>hkp j hj k hk (by rw [ho];exact Sub.rfl' _)
 have ks:=k1 sb 21 (by omega) h.sk.lt h.so;have kl:=k1 lm 17 (by omega) h.lk.lt h.lo;have kh:=k1 hm 18 (by omega) h.hk.lt h.ho
 refine⟨hst,k7.set nv',(Own.ext_old lB).trans h.own,hrow.kept (λg hg=>N4 _ _ _ _ (λe=>hneB' g hg e)),λg hg=>?_,λi c hc=>?_,
  h.sk.kept ks.2,ks.1.trans h.so,h.lk.kept kl.2,kl.1.trans h.lo,h.hk.kept kh.2,kh.1.trans h.ho,jk.loc _ _ _ _ _ _ _ _ h.fl hst.size (hkp 16 (by omega))⟩
 ·rcases hg5 g hg with h1|h1
  ·rw [Own.ext_old (h.row.lt h1),h.rown g h1]
  ·rw [Own.ext_new (by omega) hg]
 ·rcases Nat.lt_or_ge i nl.length with hi|hi
  ·rw [U8 hi] at hc
   exact jv.loc _ _ _ _ _ _ _ (h.nodes i c hc) hst.size (hkp i (by omega))
  ·rw [U6 hi] at hc
   have hi0:i=nl.length:=by
    have:=(N6.1 hc).1;simp at this;omega
   subst hi0;simp at hc
   subst hc;exact jv.loc _ _ _ _ _ _ _ hN hst.size (hkp nl.length (by omega))
theorem Yb.done {B sb lm fb hm n bx dm:Nat}{v cap:Int}{nv:Value}{nl:List Nat}{t:List Nat}{ow:Own}{W:World}(h:Yb B sb lm fb hm n v cap nv nl t ow W)(hn:nl.length=n)(h1:1<=n)(hn16:n<=16)
 (hb:Blk W bx #[.pointer (some ⟨B,0,none⟩)] 24) (hd:zU W dm zfI (Yy bx)) (ob:ow bx=t++ [19]) (od:ow dm=t++ [19]):
 zq t ow W ow (W.setCell ⟨B,5,none⟩ (.map (some dm)))/\∃K,zy B K (JZ n v cap (zp v)) t ow (W.setCell ⟨B,5,none⟩ (.map (some dm))):=by
 have hM:Mod (λk=>k=B) W (W.setCell ⟨B,5,none⟩ (.map (some dm))):=(Mod.refl (λk=>k=B) W).thenSet (p:=⟨B,5,none⟩) rfl _
 obtain⟨nb,nc,hnv⟩:∃nb nc,nv=.slice (some ⟨nb,0,none⟩) nl.length nc:=by
  rcases h.row.form with⟨-,h0, -⟩|⟨g,cap,h, -⟩
  ·omega
  ·exact⟨g,cap,h⟩
 subst hnv;have hnB:∀k i,ow k=t++ [i] ->k≠B:=λk i ho e=>by rw [e,h.own] at ho;have:=congrArg List.length ho;simp at this
 have hkp:∀k i,ow k=t++ [i] ->(W.setCell ⟨B,5,none⟩ (.map (some dm))).heap[k]?=W.heap[k]?:=λk i ho=>N4 _ _ _ _ (hnB k i ho)
 have hnl:(JZ n v cap (zp v)).nodes.length=n:=by simp [JZ]
 refine⟨zq.setCell W ⟨B,5,none⟩ _ (by simp only [h.own];exact Sub.rfl' t),⟨fb,lm,hm,dm,bx,nb,nc,sb,nl⟩,.slice none 0 0,λ_=>none,?_,h.own,λi=>?_⟩
 ·rw [hnl]
  have:=h.blk.set (o:=5) (.map (some dm));rw [hn] at this;exact this
 unfold vN
 split
 ·intro m hm'
  have hm2:((List.range n).map λ(i:Nat)=>zhU i v cap [] (zp v))[i]?=some m:=hm';rw [List.getElem?_map] at hm2;obtain⟨j,hj,rfl⟩:=Option.map_eq_some_iff.1 hm2;obtain⟨hjl,hje⟩:=N6.1 hj;simp only [List.getElem_range] at hje;subst hje;have hil:i<nl.length:=by simp only [List.length_range] at hjl;omega
  refine⟨nl[i],N3 hil,?_⟩;exact(jv.loc _ _ _).node (h.nodes i _ (N3 hil)) h.own hM (λ_ _=>rfl)
 split
 ·rename_i e;subst e
  exact(jk.loc _ _ _ _).node h.fl h.own hM (λ_ _=>rfl)
 split
 ·rename_i e;subst e
  exact⟨h.lo,[],by simp,h.lk.kept (hkp _ _ h.lo),λj=>rfl⟩
 split
 ·rename_i e;subst e
  exact⟨h.ho,h.hk.kept (hkp _ _ h.ho)⟩
 split
 ·rename_i e;subst e
  exact⟨od,ob,hd.kept (hkp _ _ od),hb.kept (hkp _ _ ob)⟩
 split
 ·rename_i e;subst e
  refine⟨h.rown nb rfl,by rw [hnl];exact hn,?_⟩;rw [hnl,← hn];exact h.row.kept (λg hg=>hkp _ _ (h.rown g hg))
 split
 ·rename_i e;subst e
  exact⟨h.so,by rw [hnl];simp [JZ],h.sk.kept (hkp _ _ h.so)⟩
 split
 ·exact⟨λg hg=>by simp [Value.ownBlock] at hg,zX _ _ _⟩
 split
 ·trivial
 ·simp [JZ,zJ]
