/- PARTS OF THE PROOF. -/
import Derived.Test.YtobnhnidffipjaaGreatDoorQ37
import Derived.Test.YtobnhnidffipjaaGreatDoorQ47
set_option maxRecDepth 8000
set_option maxHeartbeats 4000000
open Go.Proofs.Tryz
namespace Go.Proofs.YtobnhnidffipjaaGreatDoor
section
open Go Go.RowKit Go.Shelf Go.Extern.Stop Go.Stop Go.Extern
attribute [local go_sem] Oper.semAt_some zw zn
theorem zek(n v cap:Int)(hn:n<1∨16<n)(w:World):Calls prog 13 #[.int .i64 n,.int .i64 v,.int .i64 cap,.slice none 0 0] w λe w'=>e=.returned (.tuple #[.pointer none,.int .i64 2])/\w'=w:=by
 by_cases h:n<1
 ·have t1:decide (n<1)=true:=by simpa using h
  go_enter func13,ntmps13
  go_wp2;go_ret2
  exact⟨rfl,rfl⟩
 ·have t1:decide (n<1)=false:=by simpa using h
  have t2:decide (16<n)=true:=by simp;omega
  go_enter func13,ntmps13
  go_wp2;go_ret2
  exact⟨rfl,rfl⟩
def zay(n:Nat)(v cap:Int)(t:List Nat)(ow:Own)(w:World)(e:Ending)(w':World):Prop:=
 ∃B K ow',e=.returned (.tuple #[.pointer (some ⟨B,0,none⟩),.int .i64 0])/\zq t ow w ow' w'/\Below w.heap.size w w'/\zy B K (JZ n v cap (zp v)) t ow' w'/\w.heap.size<=B
theorem zel(a:Addr)(n:Nat)(hn:1<=n/\n<=16)(v cap:Int)(hv:known v=true)(h1:64<=cap)(h2:cap<=1048576)(t:List Nat)(ow:Own)(w:World)(he:jA w a):
 Calls prog 13 #[.int .i64 (n:Nat),.int .i64 v,.int .i64 cap,.slice none 0 0] w (zay n v cap t ow w):=by
 have hnew:=λ(i:Nat) hi ow W hW=>ziL a i v cap (by omega) hi hv h1 h2 (t++ [i]) ow W hW
 have hmm:= @run_makeMap prog;have t1:decide ((n:Int)<1)=false:=by simp;omega
 have t2:decide (16<(n:Int))=false:=by simp;omega
 have y0:(0:Int)<=(n:Int):=by omega
 replace hnew:=G hnew
 go_enter func13,ntmps13
 go_wp2_with fail
 refine yl [O 0] none Qv #[true,false,false,false,false,false,false,false] (m:=7) (by kernel_rfl) (by kernel_rfl) trivial ?_
 (repeat (refine zA (v:=?_) rfl rfl (λw' h=>?_) (λK k=>?_);rotate_left;obtain⟨f1,f2,f3,f4,f5,_⟩:=h;(try have e1:=f1.cell);(try have e2:=f2.cell);(try have e3:=f3.cell);(try have e4:=f4.cell);(try have e5:=f5.cell);go_simp;(try with_reducible rfl);go_simp;refine k _ ?_;clear k K))
 refine zY (λ_=>?_)
 refine QE (m:=3) [1,2,3,4] (λi=>21+i) (λ_=>undef)
  (λi b=>match i with|1=>.slice (some ⟨b,0,none⟩) n n|2=>.map (some b)|3=>.pointer (some ⟨b,0,none⟩)|_=>.map (some b))
  (λi=>match i with|1=>.cells (Zt n) 86|2=>.map #[] 0|3=>.cells #[.int .u32 0,.slice none 0 0] 110|_=>.map #[] 0) (by kernel_rfl) rfl ?_ ?_
 ·intro i hi g W
  rcases(by simpa using hi:i=1∨i=2∨i=3∨i=4)with rfl|rfl|rfl|rfl
  ·unfold frp
   simp only [List.foldl_cons,List.foldl_nil];go_simp;refine jT rfl (λJ hJ=>?_);have hms:=QF n hn.2 W;go_wp2;exact hJ.out _ _ ⟨rfl,rfl⟩
  ·unfold frp
   simp only [List.foldl_cons,List.foldl_nil];go_simp;refine jT rfl (λJ hJ=>?_);go_wp2;exact hJ.out _ _ ⟨rfl,rfl⟩
  ·unfold frp
   simp only [List.foldl_cons,List.foldl_nil];go_simp;refine jT rfl (λJ hJ=>?_);go_wp2_with fail
   refine(zbz _).mono ?_;rintro e w1⟨rfl,rfl⟩;go_wp2;exact hJ.out _ _ ⟨rfl,rfl⟩
  ·unfold frp
   simp only [List.foldl_cons,List.foldl_nil];go_simp;refine jT rfl (λJ hJ=>?_);go_wp2;exact hJ.out _ _ ⟨rfl,rfl⟩
 intro h W hh hd hb0;obtain⟨sb,hsb⟩:∃x,h 1=x:=⟨_,rfl⟩;obtain⟨lm,hlm⟩:∃x,h 2=x:=⟨_,rfl⟩;obtain⟨fb,hfb⟩:∃x,h 3=x:=⟨_,rfl⟩;obtain⟨hm,hhm⟩:∃x,h 4=x:=⟨_,rfl⟩;have g1:=hh 1 (by simp);have g2:=hh 2 (by simp);have g3:=hh 3 (by simp);have g4:=hh 4 (by simp);have d12:=hd 1 (by simp) 2 (by simp) (by decide);have d13:=hd 1 (by simp) 3 (by simp) (by decide);have d14:=hd 1 (by simp) 4 (by simp) (by decide);have d23:=hd 2 (by simp) 3 (by simp) (by decide);have d24:=hd 2 (by simp) 4 (by simp) (by decide);have d34:=hd 3 (by simp) 4 (by simp) (by decide);simp only [hsb,hlm,hfb,hhm] at g1 g2 g3 g4 d12 d13 d14 d23 d24 d34;unfold frp;simp only [List.foldl_cons,List.foldl_nil,hsb,hlm,hfb,hhm];go_simp;clear hh hd hsb hlm hfb hhm h;refine yC [E 5,E 6,O 7] (by kernel_rfl) (λ_=>trivial) ?_;refine zQ rfl (by simp) (λJ hJ=>?_);go_wp2;refine hJ.out _ _ trivial ?_;clear hJ J;refine zQ rfl (by simp) (λJ hJ=>?_);go_wp2;refine hJ.out _ _ trivial ?_;clear hJ J
 (repeat (refine zA (v:=?_) rfl rfl (λw' h=>?_) (λK k=>?_);rotate_left;obtain⟨f1,f2,f3,f4,f5,_⟩:=h;(try have e1:=f1.cell);(try have e2:=f2.cell);(try have e3:=f3.cell);(try have e4:=f4.cell);(try have e5:=f5.cell);go_simp;(try with_reducible rfl);go_simp;refine k _ ?_;clear k K))
 refine zY ?_;obtain⟨W1,hW1⟩:∃x,x=W.alloc (.cells #[.slice none 0 0,.slice (some ⟨sb,0,none⟩) n n,.map (some lm),.pointer (some ⟨fb,0,none⟩),.map (some hm),.map none,.slice none 0 0] 72):=⟨_,rfl⟩;have hzw:w.drew.heap.size=w.heap.size:=rfl;have hbW:Below w.heap.size w W1:=by rw [hW1];exact zg (zf (zo (N2 _ _)) hb0) _
 have kB1:Blk W1 W.heap.size #[.slice none 0 0,.slice (some ⟨sb,0,none⟩) n n,.map (some lm),.pointer (some ⟨fb,0,none⟩),.map (some hm),.map none,.slice none 0 0] 72:=by rw [hW1];exact Blk.new rfl
 have hold:∀k o,W.heap[k]?=some o->W1.heap[k]?=some o:=λk o hk=>by rw [hW1];exact(U4 W _ _ (N5.1 hk).1).trans hk
 have hlt:∀k o,W.heap[k]?=some o->k<W.heap.size:=λk o hk=>(N5.1 hk).1
 have q1:=hlt _ _ g1.1;have q2:=hlt _ _ g2.1;have q3:=hlt _ _ g3.1;have q4:=hlt _ _ g4.1;have hbz:=hb0.size;rw [← hW1];obtain⟨ow1,how1⟩:∃f:Own,f=λk=>if k<w.heap.size then ow k else if k=W.heap.size then t else if k=sb then t++ [21] else if k=lm then t++ [17] else if k=fb then t++ [16] else if k=hm then t++ [18] else []:=⟨_,rfl⟩
 have hst1:zq t ow w ow1 W1:=⟨Mod.of_below _ hbW,λk hk=>by rw [how1];simp only [if_pos hk]⟩
 have hH1:Yb W.heap.size sb lm fb hm n v cap (.slice none 0 0) [] t ow1 W1:=by
  have n1:¬W.heap.size<w.heap.size:=by omega
  have n2:¬sb<w.heap.size:=by omega
  have n3:¬lm<w.heap.size:=by omega
  have n4:¬fb<w.heap.size:=by omega
  have n5:¬hm<w.heap.size:=by omega
  refine⟨kB1,?_,zX _ _ _,λg hg=>(by cases hg),λi b hb=>(by simp at hb),hold _ _ g1.1,?_,?_,?_,?_,?_,?_⟩
  ·rw [how1];simp only [if_neg n1,if_true]
  ·rw [how1];simp only [if_neg n2,if_neg (show¬sb=W.heap.size by omega),if_true]
  ·exact⟨#[],0,hold _ _ g2.1,rfl,by simp,by simp⟩
  ·rw [how1];simp only [if_neg n3,if_neg (show¬lm=W.heap.size by omega),if_neg (Ne.symm d12),if_true]
  ·exact⟨#[],0,hold _ _ g4.1,rfl,by simp,by simp⟩
  ·rw [how1];simp only [if_neg n5,if_neg (show¬hm=W.heap.size by omega),if_neg (Ne.symm d14),if_neg (Ne.symm d24),if_neg (Ne.symm d34),if_true]
  ·refine⟨.slice none 0 0,hold _ _ g3.1,⟨rfl,.inl ⟨rfl,rfl⟩⟩,?_,λg hg=>(by cases hg)⟩
   rw [how1];simp only [if_neg n4,if_neg (show¬fb=W.heap.size by omega),if_neg (Ne.symm d13),if_neg (Ne.symm d23),if_true]
 have hBw:w.heap.size<=W.heap.size:=by omega
 have hel:=he.lt
 generalize W.heap.size=B at*
 clear hold hlt g1 g2 g3 g4 q1 q2 q3 q4 d12 d13 d14 d23 d24 d34 hW1 hb0 how1 hbz kB1;go_wp2
 go_loopw [29] (λp29 wr=>∃(nl:List Nat)(nv:Value)(ow':Own),p29=.int .i64 (nl.length:Nat)/\nl.length<=n/\zq t ow w ow' wr/\Below w.heap.size w wr/\(∀g,nv.ownBlock=some g->w.heap.size<=g)/\Yb B sb lm fb hm n v cap nv nl t ow' wr) (λp29 _=>n - (intOf p29).toNat)
 case atStart=>exact⟨[],.slice none 0 0,ow1,rfl,Nat.zero_le _,hst1,hbW,λg hg=>(by cases hg),hH1⟩
 case round=>
  obtain⟨nl,nv,ow',rfl,hjn,hst,hbw,hng,hH⟩:=hrel;clear hH1 hst1 hbW;obtain⟨j,hj⟩:∃j,nl.length=j:=⟨_,rfl⟩;rw [hj] at hjn⊢
  by_cases hjN:j<n
  ·have t3:decide ((j:Int)<(n:Int))=true:=by simpa using hjN
   have t4:decide ((j:Int)<0)=false:=by simp
   have hwj:IntKind.i64.wrap ((j:Int)+1)=(j:Int)+1:=by rw [N8];omega
   have hnw:=hnew.out j (by omega) ow' _ (he.below hbw hel);replace hnw:=G hnw;replace hj:=G hj;replace hH:=G hH;replace hng:=G hng;go_wp2_with fail
   refine hnw.out.mono ?_;rintro e w2⟨b,ow2,rfl,hs2,hb2,hN2,hge2⟩;have hH2:Yb B sb lm fb hm n v cap nv nl t ow2 w2:=Yb.loc _ _ _ _ _ _ _ _ _ _ _ _ _ _ _ hH.out hb2.size (λk hk _=>⟨hs2.agree k hk,hb2.block k hk⟩);have hb3:Below w2.heap.size w2 (w2.alloc (.cells #[.pointer (some ⟨b,0,none⟩)] 48)):=zg (N2 _ _) _;have k3:Blk (w2.alloc (.cells #[.pointer (some ⟨b,0,none⟩)] 48)) w2.heap.size #[.pointer (some ⟨b,0,none⟩)] 48:=Blk.new rfl;have hsrc3:Src (w2.alloc (.cells #[.pointer (some ⟨b,0,none⟩)] 48)) (.slice (some ⟨w2.heap.size,0,none⟩) 1 1) 1 [b].length (vk [b]):=jB (n:=1) (size:=1) (cap:=1) k3 rfl (N0 1);have hH3:=(Yb.loc B sb lm fb hm n v cap nv nl t).cut hH2 hb3;have hN3:=(jv.loc b _ _).cut hN2 hb3;obtain⟨nv',W7,hrun,hrow,hgr,hown⟩:=zI zkA hH3.row hsrc3 (zb2 _) (by rw [hj.out];simp;omega) 65
   have hrow':Row W7 48 1 nv' (nl++ [b]).length (vk (nl++ [b])):=by
    rw [N1,show vk (nl++ [b])=vk nl++vk [b] by unfold vk;simp];exact hrow
   have hN3':=hN3;rw [← hj.out] at hN3';obtain⟨hs8,hH8⟩:=hH3.push hN3' (by rw [hj.out];omega) hrow' hgr hown;have hb7:Below w.heap.size w W7:=(zf (zf hbw hb2) hb3).grown hgr (by have:=hb2.size;have:=hbw.size;simp;omega) (λk hk=>hng.out k hk)
   have hng':∀g,nv'.ownBlock=some g->w.heap.size<=g:=λg hg=>by
    rw [hg] at hown
    rcases hown with h|h
    ·exact hng.out g h.symm
    ·have:=hb2.size;have:=hbw.size;simp at h;omega
   have hz8:=hbw.size;have hz9:=hb2.size;have hz7:=hH3.row.ne_blk hH3.blk (by decide) (g:=B);have kB7:=hH3.blk.kept (w':=W7) (hgr.block B hH3.blk.lt (λe=>hz7 e.symm rfl));have c20:=hH2.blk.cell 0;have c70:=kB7.cell 0;have f7:=kB7.frozen;have l7:=kB7.lt;obtain⟨na,nc,rfl⟩:=hH3.row.wideV.shape;obtain⟨na',nc',rfl⟩:=hrow'.wideV.shape;simp only [N1,U2] at hs8 hH8 hng' hrun;replace hH2:=G hH2;replace hH3:=G hH3;replace hH8:=G hH8;replace hng':=G hng';replace hrow':=G hrow';replace hrow:=G hrow;replace hgr:=G hgr;replace hown:=G hown;replace hN2:=G hN2;replace hN3:=G hN3;replace hN3':=G hN3';replace hrun:=G hrun;replace hs8:=G hs8
   go_wp2_with (at_builtin
                refine zu rfl _ _ _ rfl rfl rfl hrun.out ?_)
   go_roundw
   case rel=>exact⟨nl++ [b],_,_,by simp [hj.out],by simp [hj.out];omega,(hst.trans (hs2.mono (Sub.child t j))).trans (zq.wrap hb3 hs8.out),zm hb7 hBw _,hng'.out,hH8.out⟩
   case measure=>simp [intOf];omega
  ·obtain rfl:n=j:=by omega
   have t3:decide ((n:Int)<(n:Int))=false:=by simp
   replace hH:=G hH;replace hng:=G hng;replace hj:=G hj;go_wp2_with fail
   refine(zf0 B _).mono ?_;rintro e w8⟨rfl,hb8,kX8,hM8⟩;have hH8:Yb B sb lm fb hm n v cap nv nl t (ow'.ext wr.heap.size (λk=>k=wr.heap.size∨k=wr.heap.size+1) (t++ [19])) w8:=Yb.loc _ _ _ _ _ _ _ _ _ _ _ _ _ _ _ hH.out hb8.size (λk hk _=>⟨Own.ext_old hk,hb8.block k hk⟩);have c8:=hH8.blk.cell 5;have f8:=hH8.blk.frozen;have l8:=hH8.blk.lt;obtain⟨hs9,K,hW9⟩:=hH8.done hj.out hn.1 hn.2 kX8 hM8 (Own.ext_new (by omega) (.inl rfl)) (Own.ext_new (by omega) (.inr rfl));replace hH8:=G hH8;go_wp2;go_ret2
   exact⟨B,K,_,rfl,(hst.trans ⟨Mod.of_below _ hb8,λk hk=>Own.ext_old hk⟩).trans hs9,zm (zf hbw hb8) hBw _,hW9,hBw⟩
theorem zb3(id v cap:Int)(hi:0<=id)(hi2:id<16)(hv:known v=false)(h1:64<=cap)(h2:cap<=1048576)(w:World):
 Calls prog 32 #[.int .i64 id,.int .i64 v,.int .i64 cap,.slice none 0 0] w λe w'=>e=.returned (.tuple #[.pointer none,.int .i64 130])/\Below w.heap.size w w':=by
 have hst:=zaW cap h1 h2 [1] (λ_=>[]) w;have hcl:=λW=>Tryz.slices_Clone_int_nil 0 0 W
 have hno:=zjQ v hv;have t1:decide (id<0)=false:=by simp;omega
 have t2:decide (16<=id)=false:=by simp;omega
 have hbeg:∀(W:World)(B:Nat)(sv:Value),Blk W B #[.pointer none,.int .i64 id,.int .i64 v,.slice none 0 0,sv,.pointer none,.pointer none,.slice none 0 0,.int .i64 0,.int .i64 0,.int .i64 0,.bool false] 95->
  Calls prog 48 #[.pointer (some ⟨B,0,none⟩)] W λe w'=>e=.returned (.int .i64 130)/\Below W.heap.size W w':=by
  intro W B sv hB;have e0:=hB.cell;replace hst:=G hst;replace hno:=G hno
  go_enter func48,ntmps48
  go_wp2_with fail
  refine(hno.out _).mono ?_;rintro e w1⟨rfl,hb1⟩;go_wp2;go_ret
  exact⟨rfl,hb1⟩
 replace hst:=G hst;replace hcl:=G hcl;replace hbeg:=G hbeg
 go_enter func32,ntmps32
 go_wp2_with fail
 refine hst.out.mono ?_;rintro e w1⟨sb,ow1,rfl,hs1,hb1,hS,hsb⟩;go_wp2_with fail
 refine(hcl.out _).mono ?_;rintro e w2⟨rfl,hw2⟩;obtain rfl:=hw2.symm;go_wp2_with fail
 refine(hbeg.out _ _ _ (Blk.new rfl)).mono ?_;rintro e w3⟨rfl,hb3⟩;go_wp2;go_ret2
 exact⟨rfl,zf (zg hb1 _) hb3⟩
theorem zi1(n:Nat)(hn:1<=n/\n<=16)(v cap:Int)(hv:known v=false)(h1:64<=cap)(h2:cap<=1048576)(w:World):
 Calls prog 13 #[.int .i64 (n:Nat),.int .i64 v,.int .i64 cap,.slice none 0 0] w λe w'=>e=.returned (.tuple #[.pointer none,.int .i64 130])/\Below w.heap.size w w':=by
 have hnew:=λW=>zb3 0 v cap (by omega) (by omega) hv h1 h2 W
 have hmm:= @run_makeMap prog;have t1:decide ((n:Int)<1)=false:=by simp;omega
 have t2:decide (16<(n:Int))=false:=by simp;omega
 have y0:(0:Int)<=(n:Int):=by omega
 replace hnew:=G hnew
 go_enter func13,ntmps13
 go_wp2_with fail
 refine yl [O 0] none Qv #[true,false,false,false,false,false,false,false] (m:=7) (by kernel_rfl) (by kernel_rfl) trivial ?_
 (repeat (refine zA (v:=?_) rfl rfl (λw' h=>?_) (λK k=>?_);rotate_left;obtain⟨f1,f2,f3,f4,f5,_⟩:=h;(try have e1:=f1.cell);(try have e2:=f2.cell);(try have e3:=f3.cell);(try have e4:=f4.cell);(try have e5:=f5.cell);go_simp;(try with_reducible rfl);go_simp;refine k _ ?_;clear k K))
 refine zY (λ_=>?_)
 refine QE (m:=3) [1,2,3,4] (λi=>21+i) (λ_=>undef)
  (λi b=>match i with|1=>.slice (some ⟨b,0,none⟩) n n|2=>.map (some b)|3=>.pointer (some ⟨b,0,none⟩)|_=>.map (some b))
  (λi=>match i with|1=>.cells (Zt n) 86|2=>.map #[] 0|3=>.cells #[.int .u32 0,.slice none 0 0] 110|_=>.map #[] 0) (by kernel_rfl) rfl ?_ ?_
 ·intro i hi g W
  rcases(by simpa using hi:i=1∨i=2∨i=3∨i=4)with rfl|rfl|rfl|rfl
  ·unfold frp
   simp only [List.foldl_cons,List.foldl_nil];go_simp;refine jT rfl (λJ hJ=>?_);have hms:=QF n hn.2 W;go_wp2;exact hJ.out _ _ ⟨rfl,rfl⟩
  ·unfold frp
   simp only [List.foldl_cons,List.foldl_nil];go_simp;refine jT rfl (λJ hJ=>?_);go_wp2;exact hJ.out _ _ ⟨rfl,rfl⟩
  ·unfold frp
   simp only [List.foldl_cons,List.foldl_nil];go_simp;refine jT rfl (λJ hJ=>?_);go_wp2_with fail
   refine(zbz _).mono ?_;rintro e w1⟨rfl,rfl⟩;go_wp2;exact hJ.out _ _ ⟨rfl,rfl⟩
  ·unfold frp
   simp only [List.foldl_cons,List.foldl_nil];go_simp;refine jT rfl (λJ hJ=>?_);go_wp2;exact hJ.out _ _ ⟨rfl,rfl⟩
 intro h W hh hd hb0;obtain⟨sb,hsb⟩:∃x,h 1=x:=⟨_,rfl⟩;obtain⟨lm,hlm⟩:∃x,h 2=x:=⟨_,rfl⟩;obtain⟨fb,hfb⟩:∃x,h 3=x:=⟨_,rfl⟩;obtain⟨hm,hhm⟩:∃x,h 4=x:=⟨_,rfl⟩;have g1:=hh 1 (by simp);have g2:=hh 2 (by simp);have g3:=hh 3 (by simp);have g4:=hh 4 (by simp);have d12:=hd 1 (by simp) 2 (by simp) (by decide);have d13:=hd 1 (by simp) 3 (by simp) (by decide);have d14:=hd 1 (by simp) 4 (by simp) (by decide);have d23:=hd 2 (by simp) 3 (by simp) (by decide);have d24:=hd 2 (by simp) 4 (by simp) (by decide);have d34:=hd 3 (by simp) 4 (by simp) (by decide);simp only [hsb,hlm,hfb,hhm] at g1 g2 g3 g4 d12 d13 d14 d23 d24 d34;unfold frp;simp only [List.foldl_cons,List.foldl_nil,hsb,hlm,hfb,hhm];go_simp;clear hh hd hsb hlm hfb hhm h;refine yC [E 5,E 6,O 7] (by kernel_rfl) (λ_=>trivial) ?_;refine zQ rfl (by simp) (λJ hJ=>?_);go_wp2;refine hJ.out _ _ trivial ?_;clear hJ J;refine zQ rfl (by simp) (λJ hJ=>?_);go_wp2;refine hJ.out _ _ trivial ?_;clear hJ J
 (repeat (refine zA (v:=?_) rfl rfl (λw' h=>?_) (λK k=>?_);rotate_left;obtain⟨f1,f2,f3,f4,f5,_⟩:=h;(try have e1:=f1.cell);(try have e2:=f2.cell);(try have e3:=f3.cell);(try have e4:=f4.cell);(try have e5:=f5.cell);go_simp;(try with_reducible rfl);go_simp;refine k _ ?_;clear k K))
 refine zY ?_;have hbW:=zg (zf (zo (N2 _ _)) hb0) (.cells #[.slice none 0 0,.slice (some ⟨sb,0,none⟩) n n,.map (some lm),.pointer (some ⟨fb,0,none⟩),.map (some hm),.map none,.slice none 0 0] 72);obtain⟨W1,hW1⟩:∃x,x=W.alloc (.cells #[.slice none 0 0,.slice (some ⟨sb,0,none⟩) n n,.map (some lm),.pointer (some ⟨fb,0,none⟩),.map (some hm),.map none,.slice none 0 0] 72):=⟨_,rfl⟩;rw [← hW1] at hbW⊢
 generalize W.heap.size=B at*
 clear g1 g2 g3 g4 d12 d13 d14 d23 d24 d34 hW1 hb0;go_wp2;have t3:decide ((0:Int)<(n:Int))=true:=by simp;omega
 go_loopw [29] (λp29 wr=>p29=.int .i64 0/\wr=W1) (λ_ _=>0)
 case atStart=>exact⟨rfl,rfl⟩
 case round=>
  obtain⟨rfl,rfl⟩:=hrel;go_wp2_with fail
  refine(hnew.out _).mono ?_;rintro e w2⟨rfl,hb2⟩;go_wp2;go_ret2
  exact⟨rfl,zf hbW hb2⟩
variable {B:Nat}{K:WK}{tv:Value}{lp:Nat->Option Nat}{S:zj}{v:Int}{k0 L:Nat}{t:List Nat}{ow:Own}{w:World}
theorem zi2(l:List zv)(f:zv->Bool){k:Nat}{x:zv}(hx:l[k]?=some x):(l.take (k+1)).any f=((l.take k).any f||f x):=by
 rw [List.take_add_one,hx];simp
theorem Xw {i:Nat}(hi:i<S.nodes.length):S.nodes[i]?=some (zt S i):=by
 unfold zt;rw [N3 hi];rfl
theorem zem(hG:zr v k0 L S)(i:Nat)(hi:i<S.nodes.length)(h:zk B K tv lp S t ow w):
 Calls prog 44 #[.pointer (some ⟨B,0,none⟩),.int .i64 (i:Nat)] w λe w'=>e=.returned (.bool (zjj S i))/\Below w.heap.size w w':=by
 have hn16:=hG.n0;have hB:=h.blk;have e0:=hB.cell;have l0:=hB.lt;have y0:(0:Int)<=(i:Int):=by omega
 have y1:(i:Int)<(S.nodes.length:Int):=by omega
 have hnx:∀j,j<S.nodes.length->∃b,K.nl[j]?=some b/\w.cell? ⟨K.nb,j,none⟩=some (.pointer (some ⟨b,0,none⟩))/\∀W,Below w.heap.size w W->Calls prog 76 #[.pointer (some ⟨b,0,none⟩)] W λe w'=>e=.returned (.int .i64 (vM (zt S j):Nat))/\Below W.heap.size W w':=by
  intro j hj;obtain⟨b,hnb,px,sb,lb,pb,av,hN⟩:=h.node (by omega) (hG.node hj).1;refine⟨b,hnb,h.nodeCell hnb,λW hW=>?_⟩;have hNG:=(hG.node hj).2;exact zbs (px:=px) (sb:=sb) (lb:=lb) (pb:=pb) (av:=av) b (zt S j) (t++ [j]) (by simp) ow W ((zx.loc _ _ _ _ _ _ _ _).below hN hW) hNG.ok.bounds.2.2.1 hNG.known
 obtain⟨b,hnb,hc0,hni⟩:=hnx i hi
 have hpr:∀W,Below w.heap.size w W->Calls prog 75 #[.pointer (some ⟨b,0,none⟩)] W λr w'=>r=.returned (okV (yt (zt S i)))/\Below W.heap.size W w':=by
  intro W hW;obtain⟨b',hnb',px,sb,lb,pb,av,hN⟩:=h.node (by omega) (hG.node hi).1;obtain rfl:b'=b:=by rw [hnb] at hnb';exact(Option.some.inj hnb').symm
  exact JV (px:=px) (sb:=sb) (lb:=lb) (pb:=pb) (av:=av) b' (zt S i) (t++ [i]) ow W ((zx.loc _ _ _ _ _ _ _ _).below hN hW) (hG.eraLen hi)
 have hdu:zjj S i=((yt (zt S i)).2||S.nodes.any λn=>decide (vM (zt S i)<vM n)):=rfl;obtain⟨⟨pv,pok⟩,hpp⟩:∃q,yt (zt S i)=q:=⟨_,rfl⟩;obtain⟨nx,hnxe⟩:∃n,vM (zt S i)=n:=⟨_,rfl⟩;rw [hpp] at hpr hdu;rw [hnxe] at hni hdu;unfold okV at hpr;simp only at hdu;rw [hdu];replace hpr:=G hpr;replace hni:=G hni;replace hnx:=G hnx;replace hpp:=G hpp;replace hnxe:=G hnxe;replace hdu:=G hdu;replace hnb:=G hnb;clear h
 cases pok with
 |true=>
  go_enter func44,ntmps44
  go_wp2_with fail
  refine(hpr.out _ (N2 _ _)).mono ?_;rintro e w1⟨rfl,hb1⟩;go_wp2;go_ret
  exact⟨rfl,hb1⟩
 |false=>
  simp only [Bool.false_or]
  go_enter func44,ntmps44
  go_wp2_with fail
  refine(hpr.out _ (N2 _ _)).mono ?_;rintro e w1⟨rfl,hb1⟩;have e1:=(hB.call hb1).cell;have c1:w1.cell? ⟨K.nb,i,none⟩=some (.pointer (some ⟨b,0,none⟩)):=(hb1.cell (jH hc0)).trans hc0;clear e0;go_wp2_with fail
  refine(hni.out _ hb1).mono ?_;rintro e w2⟨rfl,hb2⟩;have hb02:=zf hb1 hb2;have e2:=(hB.call hb02).cell;clear e1 c1;go_wp2
  go_loopw [35] (λp35 wr=>∃j:Nat,p35=.int .i64 (j:Nat)/\j<=S.nodes.length/\Below w.heap.size w wr/\(S.nodes.take j).any (λn=>decide (nx<vM n))=false) (λp35 _=>S.nodes.length - (intOf p35).toNat)
  case atStart=>exact⟨0,rfl,Nat.zero_le _,hb02,by simp⟩
  case round=>
   obtain⟨j,rfl,hj,hbr,hno⟩:=hrel;clear e2
   by_cases hjN:j<S.nodes.length
   ·have t2:decide ((j:Int)<(S.nodes.length:Int))=true:=by simpa using hjN
    have y2:(0:Int)<=(j:Int):=by omega
    have y3:(j:Int)<(S.nodes.length:Int):=by omega
    have hwj:IntKind.i64.wrap ((j:Int)+1)=(j:Int)+1:=by rw [N8];omega
    obtain⟨bj, -,hcj,hnj⟩:=hnx.out j hjN;have cj:wr.cell? ⟨K.nb,j,none⟩=some (.pointer (some ⟨bj,0,none⟩)):=(hbr.cell (jH hcj)).trans hcj;have htk:=zi2 S.nodes (λn=>decide (nx<vM n)) (Xw hjN);rw [hno,Bool.false_or] at htk;replace hnj:=G hnj;replace hno:=G hno
    cases hlt:decide (nx<vM (zt S j))with
    |true=>
     have t4:decide ((nx:Int)<(vM (zt S j):Int))=true:=by simpa using hlt
     have hall:S.nodes.any (λn=>decide (nx<vM n))=true:=List.any_eq_true.2 ⟨_,List.mem_of_getElem? (Xw hjN),hlt⟩;replace htk:=G htk;replace hall:=G hall;go_wp2_with fail
     refine(hnj.out _ hbr).mono ?_;rintro e w3⟨rfl,hb3⟩;go_wp2;go_ret
     exact⟨by rw [hall.out];rfl,zf hbr hb3⟩
    |false=>
     have t4:decide ((nx:Int)<(vM (zt S j):Int))=false:=by simpa using hlt
     rw [hlt] at htk;replace htk:=G htk;go_wp2_with fail
     refine(hnj.out _ hbr).mono ?_;rintro e w3⟨rfl,hb3⟩;go_wp2
     go_roundw
     case rel=>exact⟨j+1,by simp,by omega,zf hbr hb3,htk.out⟩
     case measure=>simp [intOf];omega
   ·obtain rfl:j=S.nodes.length:=by omega
    have t2:decide ((S.nodes.length:Int)<(S.nodes.length:Int))=false:=by simp
    rw [List.take_length] at hno;replace hno:=G hno;go_wp2;go_ret
    exact⟨by rw [hno.out];rfl,hbr⟩
def zhL(S:zj)(i:Nat):Bool:= !(zt S i).down && !zjj S i
theorem X2(f:Nat->Bool)(j:Nat):(List.range (j+1)).all f=((List.range j).all f && f j):=by
 rw [List.range_succ];simp
theorem Xx(f:Nat->Bool){n j:Nat}(hj:j<n)(h:f j=false):(List.range n).all f=false:=by
 rw [List.all_eq_false];exact⟨j,List.mem_range.2 hj,by simp [h]⟩
theorem zf4(hG:zr v k0 L S)(h:zk B K tv lp S t ow w):
 Calls prog 29 #[.pointer (some ⟨B,0,none⟩)] w λe w'=>e=.returned (.bool (qS S))/\Below w.heap.size w w':=by
 have hn16:=hG.n0;have hB:=h.blk;have e0:=hB.cell;have hfl:=Jh w h hG.notesN
 have hdn:∀j,j<S.nodes.length->∃b,w.cell? ⟨K.nb,j,none⟩=some (.pointer (some ⟨b,0,none⟩))/\∀W,Below w.heap.size w W->Calls prog 43 #[.pointer (some ⟨b,0,none⟩)] W λe w'=>e=.returned (.bool (zt S j).down)/\w'=W:=by
  intro j hj;obtain⟨b,hnb,px,sb,lb,pb,av,hN⟩:=h.node (by omega) (hG.node hj).1;exact⟨b,h.nodeCell hnb,λW hW=>qO (px:=px) (sb:=sb) (lb:=lb) (pb:=pb) (av:=av) (n:=zt S j) (B:=b) W (hN.blk.call hW)⟩
 have hdu:=λ(j:Nat) hj W (hW:Below w.heap.size w W)=>zem hG j hj ((zk.loc B K tv lp S t).below h hW)
 have hrs:qS S=(S.notes.isEmpty &&(List.range S.nodes.length).all (zhL S)):=rfl;rw [hrs];obtain⟨eb,heb⟩:∃b,S.notes.isEmpty=b:=⟨_,rfl⟩
 have t0:((S.notes.length:Int)==0)=eb:=by
  rw [← heb]
  cases S.notes with
  |nil=>rfl
  |cons x l=>simp;omega
 rw [heb];replace hfl:=G hfl;replace hdn:=G hdn;replace hdu:=G hdu;replace hrs:=G hrs;replace heb:=G heb;clear h;refine zl func29 rfl ?_;simp only [ntmps29,R8,Nat.reduceAdd,Nat.reduceSub];go_wp2;go_step3;go_wp2_with fail
 refine hfl.out.mono ?_;rintro e w1⟨rfl,hb1⟩;go_wp2;go_step3;have e1:=(hB.call hb1).cell;clear e0;go_wp2
 go_loopw [14,3] (λp14 p3 wr=>∃j:Nat,p14=.int .i64 (j:Nat)/\p3=.bool eb/\j<=S.nodes.length/\Below w.heap.size w wr/\(List.range j).all (zhL S)=true) (λp14 _ _=>S.nodes.length - (intOf p14).toNat)
 case atStart=>exact⟨0,rfl,rfl,Nat.zero_le _,hb1,by simp⟩
 case round=>
  obtain⟨j,rfl,rfl,hj,hbr,hall⟩:=hrel;clear e1
  by_cases hjN:j<S.nodes.length
  ·have t2:decide ((j:Int)<(S.nodes.length:Int))=true:=by simpa using hjN
   have y2:(0:Int)<=(j:Int):=by omega
   have y3:(j:Int)<(S.nodes.length:Int):=by omega
   have hwj:IntKind.i64.wrap ((j:Int)+1)=(j:Int)+1:=by rw [N8];omega
   obtain⟨bj,hcj,hdj⟩:=hdn.out j hjN;have cj:wr.cell? ⟨K.nb,j,none⟩=some (.pointer (some ⟨bj,0,none⟩)):=(hbr.cell (jH hcj)).trans hcj;have htk:=X2 (zhL S) j;rw [hall,Bool.true_and] at htk;have hne:=Xx (zhL S) hjN;have hcw:zhL S j=(!(zt S j).down && !zjj S j):=rfl;replace hdj:=G hdj;replace hall:=G hall
   cases hd:(zt S j).down with
   |true=>
    have hne:=hne (by rw [hcw,hd];rfl);rw [hd] at hdj;replace hne:=G hne;replace htk:=G htk;replace hcw:=G hcw;replace hd:=G hd;go_wp2_with fail
    refine(hdj.out _ hbr).mono ?_;rintro e w3⟨rfl,hw3⟩;obtain rfl:=hw3.symm;go_wp2;rw [Exit.noGoto_ret];exact jw (v:=.bool false) (by simp [results,Tryz.results29,go_sem]) ⟨by rw [hne.out];simp,hbr⟩
   |false=>
    rw [hd] at hdj
    cases hu:zjj S j with
    |true=>
     have hne:=hne (by rw [hcw,hd,hu];rfl);have hdu2:=hdu.out j hjN _ hbr;rw [hu] at hdu2;replace hdu2:=G hdu2;replace hne:=G hne;replace htk:=G htk;replace hcw:=G hcw;replace hd:=G hd;replace hu:=G hu;go_wp2_with fail
     refine(hdj.out _ hbr).mono ?_;rintro e w3⟨rfl,hw3⟩;obtain rfl:=hw3.symm;go_wp2_with fail
     refine hdu2.out.mono ?_;rintro e w3⟨rfl,hb3⟩;go_wp2;rw [Exit.noGoto_ret];exact jw (v:=.bool false) (by simp [results,Tryz.results29,go_sem]) ⟨by rw [hne.out];simp,zf hbr hb3⟩
    |false=>
     rw [hcw,hd,hu] at htk;have hdu2:=hdu.out j hjN _ hbr;rw [hu] at hdu2;replace hdu2:=G hdu2;replace htk:=G htk;replace hcw:=G hcw;replace hd:=G hd;replace hu:=G hu;go_wp2_with fail
     refine(hdj.out _ hbr).mono ?_;rintro e w3⟨rfl,hw3⟩;obtain rfl:=hw3.symm;go_wp2_with fail
     refine hdu2.out.mono ?_;rintro e w3⟨rfl,hb3⟩;go_wp2
     go_roundw
     case rel=>exact⟨j+1,by simp,rfl,by omega,zf hbr hb3,htk.out⟩
     case measure=>simp [intOf];omega
  ·obtain rfl:j=S.nodes.length:=by omega
   have t2:decide ((S.nodes.length:Int)<(S.nodes.length:Int))=false:=by simp
   replace hall:=G hall;go_wp2;rw [Exit.noGoto_ret];exact jw (v:=.bool eb) (by simp [results,Tryz.results29,go_sem]) ⟨by rw [hall.out];simp,hbr⟩
end
open Go
abbrev ZW:=Nat×Nat
def j3(S:zj)(p:ZW):Option ZW:=
 if p.1=0 then(if p.2<S.nodes.length then(if(zt S p.2).down then none else some (0,p.2+1))else some (1,0))
 else if p.1=1 then(if p.2<S.nodes.length then(if zjj S p.2 then none else some (2,p.2))else none)
 else(if S.notes.length=0 then some (1,p.2+1)else none)
def zj5(S:zj)(p:ZW):Prop:=p.1=1/\S.nodes.length<=p.2
def zaz(p:ZW):OpD:=if p.1=0 then⟨9,p.2,0,0,0,[]⟩else if p.1=1 then⟨2,p.2,0,0,0,[]⟩else⟨3,0,0,0,0,[]⟩
def zhM(p:ZW):ZW:=if p.1=0 then(0,p.2+1)else(2,p.2)
inductive X3(S:zj):ZW->ZW->Prop
 |refl (p):X3 S p p
 |step {p q r} :j3 S p=some q->X3 S q r->X3 S p r
def zi3(S:zj)(q:ZW):Prop:=j3 S q=none/\¬zj5 S q
theorem X3.snoc {S:zj}{p q r:ZW}(h:X3 S p q)(h2:j3 S q=some r):X3 S p r:=by
 induction h with
 |refl=>exact .step h2 (.refl _)
 |step h1 _ ih=>exact .step h1 (ih h2)
theorem X3.det {S:zj}{p q r:ZW}(h:X3 S p q)(h2:X3 S p r)(hq:j3 S q=none)(hr:j3 S r=none):q=r:=by
 induction h with
 |refl=>
  cases h2 with
  |refl=>rfl
  |step h3 _=>rw [hq] at h3;cases h3
 |step h1 _ ih=>
  cases h2 with
  |refl=>rw [hr] at h1;cases h1
  |step h3 h4=>rw [h1] at h3;cases h3;exact ih h4 hq
theorem zj5.none {S:zj}{q:ZW}(h:zj5 S q):j3 S q=none:=by
 unfold zj5 at h;unfold j3;rw [if_neg (by omega),if_pos h.1,if_neg (by omega)]
inductive ZO(s:StD):Nat->ZW->zj->zj->Prop
 |done {p q S} :X3 S p q->zj5 S q->ZO s 0 p S S
 |step {p q S S' f} :X3 S p q->zi3 S q->ZO s f (zhM q) (doW s S (zaz q)).1 S'->ZO s (f+1) p S S'
theorem ZO.next {s:StD}{f:Nat}{p q:ZW}{S S':zj}(h:ZO s f p S S')(hs:X3 S p q)(hy:zi3 S q):∃g,f=g+1/\ZO s g (zhM q) (doW s S (zaz q)).1 S':=by
 cases h with
 |done h1 h2=>exact absurd (by rw [hs.det h1 hy.1 h2.none];exact h2) hy.2
 |step h1 h2 h3=>rw [hs.det h1 hy.1 h2.1];exact⟨_,rfl,h3⟩
theorem ZO.fin {s:StD}{f:Nat}{p q:ZW}{S S':zj}(h:ZO s f p S S')(hs:X3 S p q)(he:zj5 S q):f=0/\S'=S:=by
 cases h with
 |done h1 h2=>exact⟨rfl,rfl⟩
 |step h1 h2 h3=>exact absurd (by rw [← hs.det h1 he.none h2.1];exact he) h2.2
inductive Yc(s:StD):Nat->Nat->zj->zj->Bool->Prop
 |none {S} :Yc s 0 0 S S (qS S)
 |rests {r S} :qS S=true->Yc s (r+1) 0 S S true
 |round {r f g S S1 S' b} :qS S=false->ZO s f (0,0) S S1->Yc s r g S1 S' b->Yc s (r+1) (f+g) S S' b
def zi4(S:zj):Nat->ZW->ZW
 |0,p=>p
 |n+1,p=>match j3 S p with|none=>p|some q=>zi4 S n q
theorem zdo(S:zj):∀(n:Nat)(p:ZW),X3 S p (zi4 S n p)
 |0,p=>.refl p
 |n+1,p=>by
  unfold zi4
  cases h:j3 S p with
  |none=>exact .refl p
  |some q=>exact .step h (zdo S n q)
def zkL(s:StD):Nat->ZW->zj->Option zj
 |0,_,_=>none
 |n+1,p,S=>
  if(j3 S (zi4 S 100 p)).isSome then none
  else if(zi4 S 100 p).1=1/\S.nodes.length<=(zi4 S 100 p).2 then some S
  else zkL s n (zhM (zi4 S 100 p)) (doW s S (zaz (zi4 S 100 p))).1
theorem zhN(s:StD):∀(n:Nat)(p:ZW)(S S':zj),zkL s n p S=some S'->∃f,f<=n/\ZO s f p S S'
 |0,_,_,_,h=>by cases h
 |n+1,p,S,S',h=>by
  unfold zkL at h
  split at h
  ·cases h
  ·rename_i h1
   have h1':j3 S (zi4 S 100 p)=none:=by simpa using h1
   split at h
   ·rename_i h2
    cases h
    exact⟨0,Nat.zero_le _,.done (zdo S 100 p) h2⟩
   ·rename_i h2
    obtain⟨f,hf,hr⟩:=zhN s n _ _ _ h;exact⟨f+1,by omega,.step (zdo S 100 p) ⟨h1',h2⟩ hr⟩
def zf5(s:StD)(m:Nat):Nat->zj->Option (zj×Bool)
 |0,S=>some (S,qS S)
 |r+1,S=>if qS S then some (S,true)else match zkL s m (0,0) S with|none=>none|some S1=>zf5 s m r S1
theorem zen(s:StD)(m:Nat):∀(r:Nat)(S S':zj)(b:Bool),zf5 s m r S=some (S',b)->∃f,f<=r*m/\Yc s r f S S' b
 |0,S,S',b,h=>by
  unfold zf5 at h
  cases h
  exact⟨0,by simp,.none⟩
 |r+1,S,S',b,h=>by
  unfold zf5 at h
  split at h
  ·rename_i h1
   cases h
   exact⟨0,Nat.zero_le _,.rests h1⟩
  ·rename_i h1
   split at h
   ·cases h
   ·rename_i S1 h2
    obtain⟨f,hf,hr⟩:=zhN s m _ _ _ h2;obtain⟨g,hg,hr2⟩:=zen s m r _ _ _ h;exact⟨f+g,by rw [Nat.add_mul];omega,.round (by simpa using h1) hr hr2⟩
theorem zi5 {p:Nat->Prop} :∀n,p n->∃m,p m/\∀k,p k->m<=k:=by
 intro n
 induction n using Nat.strongRecOn with
 |_ n ih=>
  intro hn
  by_cases h:∃k,k<n/\p k
  ·obtain⟨k,hk,hp⟩:=h
   exact ih k hk hp
  ·exact⟨n,hn,λk hk=>by
    rcases Nat.lt_or_ge k n with h1|h1
    ·exact absurd ⟨k,h1,hk⟩ h
    ·exact h1⟩
noncomputable def least(p:Nat->Prop):Nat:=open Classical in if h:∃m,p m/\∀k,p k->m<=k then h.choose else 0
theorem ZK {p:Nat->Prop}(h:∃n,p n):p (least p)/\∀k,p k->least p<=k:=by
 obtain⟨n,hn⟩:=h;have h2:=zi5 n hn;unfold least;rw [dif_pos h2];exact h2.choose_spec
