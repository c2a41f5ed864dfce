/- PARTS OF THE PROOF. -/
import Derived.Test.YtofppfoioodblaaGreatDoorTC36
set_option maxRecDepth 8000
set_option maxHeartbeats 4000000
open Go.Proofs.Tryz
namespace Go.Proofs.YtofppfoioodblaaGreatDoor
open Go Go.RowKit Go.Shelf Go.Extern.Stop Go.Stop Go.Extern
attribute [local go_sem] Oper.semAt_some zB zp
theorem zjv {B sb:Nat}{M:Jf}{t:List Nat}{ow:Own}{i c:Nat}{d:List UInt8}(hi:i<16)(hln:M.logd.length=16)(hlk:zE ((i:Int),c) M.wait=some (((i:Int),c),d))(hc:c=M.logd[i]?.getD 0+1)(hk:M.logd[i]?.getD 0<=100000000)(hlog:M.log.length<=100000000)(w:World)(h:vB B sb M t ow w):
 Calls prog 114 #[.pointer (some ⟨B,0,none⟩),.agg #[.int .i64 i,.int .u32 c,.string (bs d)]] w
  (J2 B sb {M with wait:=Go.Proofs.YtofppfoioodblaaGreatDoor.del ((i:Int),c) M.wait,logd:=M.logd.set i c,log:=M.log++ [(((i:Int),c),d)] } t ow w (.bool true)):=by
 obtain⟨mb,lv,sl,hB,hS,hM,hR,ea,ed,o1,o2,o3,o4⟩:=h;obtain⟨p,hp⟩:∃p,M.logd[i]?.getD 0=p:=⟨_,rfl⟩;rw [hp] at hc hk;have y0:(0:Int)<=(i:Int):=by omega
 have y1:(i:Int)<16:=by omega
 have cb:IntKind.u32.wrap ((p:Int)+1)=(c:Int):=by rw [IntKind.wrap_u32];omega
 have t2:((c:Int) !=(c:Int))=false:=by simp
 have hq:∀W,(binOp .neq 78 (.agg #[.int .i64 i,.int .u32 c,.string (bs d)]) (.agg #[.int .i64 i,.int .u32 c,.string (bs d)])).run prog W=.ok (.bool false) W:=λW=>by
  have:=zh2 (((i:Int),c),d) (((i:Int),c),d) W
  simpa [y7] using this
 have ad:∀W,Below w.heap.size w W->(Instr.lookup 138 (.map (some mb)) (.agg #[.int .i64 i,.int .u32 c]) true).run prog W=.ok (.tuple #[.agg #[.int .i64 i,.int .u32 c,.string (bs d)],.bool true]) W:=λW hW=>by
  have h1:=(hM.kept (hW.block mb hM.lt)).lookup_ok VK Tryz.underlying138 (zax W) ((i:Int),c);have h2:=xB y7 ((i:Int),c) M.wait;rw [hlk] at h2;rw [h2] at h1;exact h1
 have ar:Blk (w.alloc (.cells #[.int .i64 i,.int .u32 c,.string (bs d)] 78)) w.heap.size #[.int .i64 i,.int .u32 c,.string (bs d)] 78:=Blk.new rfl;have a1:=hB.alloc (.cells #[.int .i64 i,.int .u32 c,.string (bs d)] 78);have bd:(w.alloc (.cells #[.int .i64 i,.int .u32 c,.string (bs d)] 78)).cell? ⟨B,1,none⟩=some (.map (some mb)):=a1.cellM rfl;replace ad:=hid ad;replace hp:=hid hp;replace ea:=hid ea;replace ed:=hid ed;replace o4:=hid o4;replace hlk:=hid hlk;replace hc:=hid hc;replace hln:=hid hln
 go_enter func114,ntmps114
 go_wp2_with fail
 refine zd [O 0,O 1,O 2,O 3,O 4,O 5,O 6,O 7,O 8,O 9,E 10,E 11,O 12] none (λw'=>w'.cell? ⟨B,1,none⟩=some (.map (some mb))/\Blk w' w.heap.size #[.int .i64 i,.int .u32 c,.string (bs d)] 78/\(Instr.lookup 138 (.map (some mb)) (.agg #[.int .i64 i,.int .u32 c]) true).run prog w'=.ok (.tuple #[.agg #[.int .i64 i,.int .u32 c,.string (bs d)],.bool true]) w'/\True) ⟨bd,ar.drew,ad.out _ (pbx),trivial⟩ ?_
 refine Wt ?_
 refine zc rfl (λK hK=>?_);go_wp2;refine hK.out _ _ (λ_=>⟨(a1.drew.alloc _).cellM rfl,ar.drew.alloc _,ad.out _ (pbx),trivial⟩) ?_;clear hK K;refine zc rfl (λK hK=>?_);go_wp2;refine hK.out _ _ (λ_=>⟨(a1.drew.alloc _).cellM rfl,ar.drew.alloc _,ad.out _ (pbx),trivial⟩) ?_;clear hK K
 refine Wt ?_
 refine ze ?_;obtain⟨W3,ap⟩:∃W3,W3=((w.alloc (.cells #[.int .i64 i,.int .u32 c,.string (bs d)] 78)).alloc (.cells #[.int .i64 i,.int .u32 c,.string (bs d)] 78)).drew:=⟨_,rfl⟩;have bo:Below w.heap.size w W3:=by rw [ap];exact zq (pbx)
 have a6:Blk W3 w.heap.size #[.int .i64 i,.int .u32 c,.string (bs d)] 78:=by rw [ap];exact(ar.alloc _).drew
 have bi:Blk W3 (w.heap.size+1) #[.int .i64 i,.int .u32 c,.string (bs d)] 78:=by rw [ap];exact(Blk.new (by simp)).drew
 rw [← ap];clear ap ar a1 bd;have bq:=hB.kept (bo.block B hB.lt);have bw:=a6.cell;have b7:=bi.cell;have b3:W3.cell? ⟨B,2+i,none⟩=some (.int .u32 p):=bq.cellM (by rw [VJ hln.out hi,hp.out]);go_wp2
 go_quiet (fail)
 go_wp2_with fail
 obtain⟨W4,a3⟩:∃W4,W4=W3.drewN nq:=⟨_,rfl⟩;have an:Below w.heap.size w W4:=by rw [a3];exact qY bo _
 have ay:Blk W4 w.heap.size #[.int .i64 i,.int .u32 c,.string (bs d)] 78:=by rw [a3];exact a6.drewN _
 rw [← a3];clear a3 a6 bi bq bw b7 b3;have aw:=hB.kept (an.block B hB.lt);have bn:W4.cell? ⟨B,1,none⟩=some (.map (some mb)):=aw.cellM rfl;obtain⟨ah,al,az⟩:=((hM.kept (an.block mb hM.lt)).kept (w':=W4.drew) rfl).delete VK Tryz.underlying138 #[138,76] 0 rfl ((i:Int),c);rw [V5 y7 ((i:Int),c) M.wait] at az;unfold idV at al;have a0:=hB.ne_map hM;have bm:w.heap.size≠mb:=by have:=hM.lt;omega
 refine zd [O 0,O 1,O 2,O 3,O 4,O 5,E 6] none (λw'=>w'.cell? ⟨B,1,none⟩=some (.map (some mb))/\Blk w' w.heap.size #[.int .i64 i,.int .u32 c,.string (bs d)] 78/\True) ⟨bn,ay.drew,trivial⟩ ?_
 refine We ?_
 refine zc rfl (λK hK=>?_);refine yt rfl _ _ _ _ rfl rfl rfl al ?_;unfold wpList;refine hK.out _ _ (λ_=>⟨(aw.drew.putObj a0 ah).cellM rfl,ay.drew.putObj bm ah,trivial⟩) ?_;clear hK K;refine ze ?_;obtain⟨W5,ag⟩:∃W5,W5=W4.drew.putObj mb ah:=⟨_,rfl⟩;have a7:Blk W5 w.heap.size #[.int .i64 i,.int .u32 c,.string (bs d)] 78:=by rw [ag];exact ay.drew.putObj bm ah
 have ax:Blk W5 B (vR sb mb sl.length M.logd lv).toArray 141:=by rw [ag];exact aw.drew.putObj a0 ah
 have bc:Mod (λk=>Sub t (ow k)) w W5:=by rw [ag];exact((Mod.of_below _ an).thenDrew).thenPut (by rw [o3];exact Sub.rfl' t) ah
 have bl:Blk W5 sb (sl.flatMap Zr).toArray 202:=by rw [ag];exact(hS.kept (an.block sb hS.lt)).drew.putObj (hS.ne_map hM) ah
 have bh:Row W5 78 3 lv M.log.length (M.log.flatMap zg):=by
  rw [ag];exact(show Row W4.drew _ _ _ _ _ from hR.kept (λg hg=>an.block g (hR.lt hg))).kept (λg hg=>U1 (hR.ne_map hM hg))
 rw [← ag] at az;rw [← ag];clear ag ay aw bn al;have bv:=a7.cell;have b4:W5.cell? ⟨B,2+i,none⟩=some (.int .u32 p):=ax.cellM (by rw [VJ hln.out hi,hp.out]);have b5:=ax.frozen (2+i);go_wp2_with fail
 go_region
 obtain⟨W6,af⟩:∃W6,W6=(W5.setCell ⟨B,2+i,none⟩ (.int .u32 c)).drew:=⟨_,rfl⟩;have bu:w.heap.size≠B:=by have:=hB.lt;omega
 have bk:sb≠B:=by
  rintro rfl;unfold Blk at hB hS;rw [hB] at hS;simp at hS
 have am:Blk W6 B (vR sb mb sl.length (M.logd.set i c) lv).toArray 141:=by rw [af];exact(ax.setM (zhr hln.out hi c)).drew
 have a2:Blk W6 w.heap.size #[.int .i64 i,.int .u32 c,.string (bs d)] 78:=by rw [af];exact(a7.other bu _).drew
 have a5:Blk W6 sb (sl.flatMap Zr).toArray 202:=by rw [af];exact(bl.other bk _).drew
 have a9:z6 W6 mb idV ((Go.Proofs.YtofppfoioodblaaGreatDoor.del ((i:Int),c) M.wait).map λp=>(p.1,y7 p.2)):=by rw [af];exact az.kept (N4 _ _ _ _ (Ne.symm a0))
 have ao:Row W6 78 3 lv M.log.length (M.log.flatMap zg):=by rw [af];exact bh.kept (λg hg=>N4 _ _ _ _ (hR.ne_blk hB (by decide) hg))
 have bb:Mod (λk=>Sub t (ow k)) w W6:=by rw [af];exact(bc.thenSet (p:=⟨B,2+i,none⟩) (by show Sub t (ow B);rw [o1];exact Sub.rfl' t) _).thenDrew
 rw [← af];clear af a7 ax bl bh bv b4 b5 bc az;obtain⟨la,lc,rfl⟩:=ao.src.shape;have be:W6.cell? ⟨B,18,none⟩=some (.slice la M.log.length lc):=am.cellM (qr (by rw [List.length_set];exact hln.out));go_wp2_with fail
 refine zd [O 0,O 1,O 2,O 3,O 4,O 5,E 6,E 7,O 8,O 9,E 10] (some 10) (λw'=>w'.cell? ⟨B,18,none⟩=some (.slice la M.log.length lc)/\Blk w' w.heap.size #[.int .i64 i,.int .u32 c,.string (bs d)] 78/\True) ⟨be,a2.drew,trivial⟩ ?_
 refine We ?_
 refine zc rfl (λJ hJ=>?_);go_wp2;have ae:=λv=>qr (sb:=sb) (mb:=mb) (n:=sl.length) (lv:=v) (show(M.logd.set i c).length=16 by rw [List.length_set];exact hln.out)
 refine hJ.out _ _ (λ_=>⟨(am.drew.alloc _).cellM (ae _),a2.drew.alloc _,trivial⟩) ?_;clear hJ J;obtain⟨W7,au⟩:∃W7,W7=(W6.alloc (.cells #[.int .i64 i,.int .u32 c,.string (bs d)] 78)).drew:=⟨_,rfl⟩;have aj:Below W6.heap.size W6 W7:=by rw [au];exact zq (zi (N2 _ _) _)
 have k7:Blk W7 W6.heap.size #[.int .i64 i,.int .u32 c,.string (bs d)] 78:=by rw [au];exact(Blk.new rfl).drew
 have aq:Src W7 (.slice (some ⟨W6.heap.size,0,none⟩) 1 1) 3 [((((i:Int),c),d):zA)].length ([((((i:Int),c),d):zA)].flatMap zg):=jP (n:=1) (size:=3) (cap:=1) k7 rfl (N0 1);rw [← au];clear au;obtain⟨b9,W8,ba,ak,ac,ai⟩:=zQ zbD (ao.below aj) aq (jv _) (by simp;omega) 42
 have aa:Row W8 78 3 b9 (M.log++ [(((i:Int),c),d)]).length ((M.log++ [(((i:Int),c),d)]).flatMap zg):=by
  rw [N1,U5];exact ak
 obtain⟨sa,sc,rfl⟩:=aa.src.shape;have bp:=am.kept (aj.block B am.lt);have a4:=bp.kept (w':=W8) (ac.block B bp.lt (λe=>ao.ne_blk am (by decide) e.symm rfl));have bg:=a2.kept (aj.block w.heap.size a2.lt);have b0:=bg.kept (w':=W8) (ac.block w.heap.size bg.lt (λe=>by have:=hR.lt e.symm;omega));have bf:=a5.kept (aj.block sb a5.lt);have b1:=bf.kept (w':=W8) (ac.block sb bf.lt (λe=>ao.ne_blk a5 (by decide) e.symm rfl));have bj:=a9.kept (aj.block mb a9.lt);have bz:=bj.kept (w':=W8) (ac.block mb bj.lt (λe=>ao.ne_map a9 e.symm rfl));have bt:W8.cell? ⟨B,18,none⟩=some (.slice la M.log.length lc):=a4.cellM (ae _);have ca:=a4.frozen 18;replace aa:=hid aa;replace ak:=hid ak;replace ac:=hid ac;replace ai:=hid ai;replace ae:=hid ae;clear be;refine zc rfl (λJ hJ=>?_);refine zw rfl _ _ _ rfl rfl rfl ba ?_;unfold wpList;refine hJ.out _ _ (λ_=>⟨bt,b0,trivial⟩) ?_;clear hJ J
 refine We ?_
 refine zc rfl (λJ hJ=>?_);go_wp2;refine hJ.out _ _ (λhh=>absurd rfl hh) ?_;clear hJ J;refine ze ?_;go_wp2;go_ret
 have a8:(M.logd.set i c).length=16:=by rw [List.length_set];exact hln.out
 have b8:w.heap.size<=W7.heap.size:=Nat.le_trans bb.size aj.size;have b6:=bb.trans (Mod.of_below (λk=>Sub t (ow k)) aj) (λ_ _ e=>e) (λ_ _ e=>e);have b2:=b6.trans (Mod.grown (W:=W7) (W':=W8) (row:=(Value.slice la M.log.length lc).ownBlock) ⟨ac.out.os,ac.out.tape,ac.out.output,ac.out.size,ac.out.block⟩ (X:=λk=>Sub t (ow k)) (λk h=>by rw [o4.out k h];exact Sub.rfl' t)) (λ_ _ e=>e) (λ_ _ e=>e);have br:M.log.length+1=(M.log++ [(((i:Int),c),d)]).length:=by simp
 rw [br]
 refine⟨rfl,ow.ext w.heap.size (λk=>(Value.slice sa (M.log++ [(((i:Int),c),d)]).length sc).ownBlock=some k) t,⟨b2.thenSet (p:=⟨B,18,none⟩) (by show Sub t (ow B);rw [o1];exact Sub.rfl' t) _,λk hk=>Own.ext_old hk⟩,mb,.slice sa (M.log++ [(((i:Int),c),d)]).length sc,sl,
  a4.setM (zjs a8 _),b1.other bk _,bz.kept (N4 _ _ _ _ (Ne.symm a0)),aa.out.kept (λg hg=>N4 _ _ _ _ (aa.out.ne_blk a4 (by decide) hg)),ea.out,ed.out,?_,?_,?_,λg hg=>?_⟩
 ·rw [Own.ext_old hB.lt];exact o1
 ·rw [Own.ext_old hS.lt];exact o2
 ·rw [Own.ext_old hM.lt];exact o3
 have ho:=ai.out
 rw [hg] at ho
 rcases ho with e|e
 ·rw [Own.ext_old (hR.lt e.symm)];exact o4.out g e.symm
 have cc:g=W7.heap.size:=by simpa using e
 rw [Own.ext_new (by omega) hg]
theorem vB.setDel {B sb:Nat}{M:Jf}{t:List Nat}{ow:Own}{W:World}(h:vB B sb M t ow W){j q:Nat}(hj:j<M.acc.length)(hq:M.del[j]?.getD 0=q):
 vB B sb {M with del:=M.del.set j (q+1)} t ow (W.setCell ⟨sb,j*2+1,none⟩ (.int .i64 ((q:Int)+1))):=by
 obtain⟨mb,lv,sl,hB,hS,hM,hR,ea,ed,o1,o2,o3,o4⟩:=h;obtain⟨⟨p,q'⟩,hp⟩:∃p,sl[j]?=some p:=⟨_,N3 (by rw [← ea] at hj;simpa using hj)⟩;obtain rfl:q'=q:=by rw [← hq,← ed,List.getElem?_map,hp];rfl
 have aa:B≠sb:=by
  rintro rfl;unfold Blk at hB hS;rw [hB] at hS;simp at hS
 refine⟨mb,lv,sl.set j (p,q'+1),?_,hS.setM (Vj (s:=(p,q')) (s':=(p,q'+1)) (j:=1) (by omega) rfl hp),hM.kept (N4 _ _ _ _ (Ne.symm (hS.ne_map hM))),hR.kept (λg hg=>N4 _ _ _ _ (hR.ne_blk hS (by decide) hg)),?_,?_,o1,o2,o3,o4⟩
 ·rw [List.length_set];exact hB.other aa _
 ·rw [List.map_set,ea]
  apply List.ext_getElem?
  intro k
  by_cases hk:j=k
  ·subst hk
   rw [List.getElem?_set_self hj,← ea,List.getElem?_map,hp];rfl
  rw [List.getElem?_set_ne hk]
 rw [List.map_set,ed]
theorem YO {B sb:Nat}{M M1:Jf}{t:List Nat}{ow:Own}{kd:Int}{j q:Nat}{i:Int}{c:Nat}{d:List UInt8}(ht:t≠ [])(hj:j<M.acc.length)(hln:M.logd.length=16)(hq:M.del[j]?.getD 0=q)(hql:q<=M.log.length)(hlog:M.log.length<=100000000)
 (hcase:(q≠M.log.length/\M1=M)∨(q=M.log.length/\∀ow w,vB B sb M t ow w->Calls prog 114 #[.pointer (some ⟨B,0,none⟩),.agg #[.int .i64 i,.int .u32 c,.string (bs d)]] w (J2 B sb M1 t ow w (.bool true))))
 (hd1:M1.del=M.del) (ha1:M1.acc=M.acc) (hln1:M1.logd.length=16) (hlt:M1.log[q]?=some ((i,c),d)) (w:World) (h:vB B sb M t ow w):
 Calls prog 74 #[.pointer (some ⟨B,0,none⟩),.agg #[.int .i64 kd,.int .i64 j,.int .i64 i,.int .u32 c,.string (bs d)]] w
  (J2 B sb {M1 with del:=M1.del.set j (q+1)} t ow w (.bool true)):=by
 have az:Blk (w.alloc (.cells #[.int .i64 kd,.int .i64 j,.int .i64 i,.int .u32 c,.string (bs d)] 80)) w.heap.size #[.int .i64 kd,.int .i64 j,.int .i64 i,.int .u32 c,.string (bs d)] 80:=Blk.new rfl;have a6:Below w.heap.size w (w.alloc (.cells #[.int .i64 kd,.int .i64 j,.int .i64 i,.int .u32 c,.string (bs d)] 80)):=zi (N2 _ _) _;have ak:M.acc=M1.acc:=ha1.symm;have al:M1.del[j]?.getD 0=q:=by rw [hd1];exact hq
 have h0:=h;obtain⟨mb,lv,sl,hB,hS,hM,hR,ea,ed,o1,o2,o3,o4⟩:=h;obtain⟨la,lc,rfl⟩:=hR.src.shape;have hn:sl.length=M.acc.length:=by rw [← ea];simp
 obtain⟨⟨p,q'⟩,hp⟩:∃p,sl[j]?=some p:=⟨_,N3 (by omega)⟩;obtain rfl:q'=q:=by rw [← hq,← ed,List.getElem?_map,hp];rfl
 have y0:(0:Int)<=(j:Int):=by omega
 have y1:(j:Int)<(sl.length:Int):=by omega
 have a2:=hB.alloc (.cells #[.int .i64 kd,.int .i64 j,.int .i64 i,.int .u32 c,.string (bs d)] 80);have e0:=az.cell;have a5:(w.alloc (.cells #[.int .i64 kd,.int .i64 j,.int .i64 i,.int .u32 c,.string (bs d)] 80)).cell? ⟨B,0,none⟩=some (.slice (some ⟨sb,0,none⟩) sl.length sl.length):=a2.cellM rfl;replace ak:=hid ak;replace al:=hid al;replace hp:=hid hp;replace ea:=hid ea;replace ed:=hid ed;replace hq:=hid hq;replace hlt:=hid hlt;replace hln:=hid hln;replace hd1:=hid hd1;replace ha1:=hid ha1;replace o4:=hid o4;replace hcase:=hid hcase;replace h0:=hid h0
 go_enter func74,ntmps74
 go_wp2
 go_quiet (fail)
 obtain⟨W1,ap⟩:∃W1,W1=(w.alloc (.cells #[.int .i64 kd,.int .i64 j,.int .i64 i,.int .u32 c,.string (bs d)] 80)).drewN nq:=⟨_,rfl⟩;have ag:Below w.heap.size w W1:=by rw [ap];exact qY a6 _
 have aj:Blk W1 w.heap.size #[.int .i64 kd,.int .i64 j,.int .i64 i,.int .u32 c,.string (bs d)] 80:=by rw [ap];exact az.drewN _
 rw [← ap];clear ap e0 a5 a2 az;have a4:=hB.kept (ag.block B hB.lt);have a1:=hS.kept (ag.block sb hS.lt);have au:W1.cell? ⟨sb,j*2+1,none⟩=some (.int .i64 q'):=a1.cellM ((qa hp.out (j:=1) (by omega)).trans rfl);have ar:W1.cell? ⟨B,18,none⟩=some (.slice la M.log.length lc):=a4.cellM (qr hln.out);have h1:vB B sb M t (ow.cut w) W1.drew:=(vB.loc B sb M t).cut h0.out (zq ag);clear hB hS hM hR o1 o2 o3 o4 a4 a1 ea ed;replace h1:=hid h1;replace ag:=hid ag
 rcases hcase.out with⟨hne,hMM⟩|⟨heq,hlay⟩
 ·have tq:((q':Int)==(M.log.length:Int))=false:=by simp;omega
  go_wp2_with fail
  refine yV [O 0,O 1,O 2,O 3,O 4,O 5,O 6,O 7,O 8,O 9,O 10,O 11,O 12,O 13,E 14,O 15,O 16] (some 14) (λw'=>Blk w' w.heap.size #[.int .i64 kd,.int .i64 j,.int .i64 i,.int .u32 c,.string (bs d)] 80/\w'.cell? ⟨sb,j*2+1,none⟩=some (.int .i64 q')/\w'.cell? ⟨B,18,none⟩=some (.slice la M.log.length lc)/\True) ⟨aj.drew,au,ar,trivial⟩ ?_
  refine Wx ?_
  refine Wy ?_
  refine vj rfl (λK hK=>?_);go_wp2_with fail
  refine hK.out _ _ ?_;clear hK K
  refine Wy ?_
  refine Wg ?_
  refine jM ?_;obtain⟨w2,ao⟩:∃w2,w2=W1.drew:=⟨_,rfl⟩;have ae:zt t (ow.cut w) W1 (ow.cut w) w2:=by rw [ao];exact zt.drew _ _ _
  have am:Blk w2 w.heap.size #[.int .i64 kd,.int .i64 j,.int .i64 i,.int .u32 c,.string (bs d)] 80:=by rw [ao];exact aj.drew
  have h2:vB B sb M1 t (ow.cut w) w2:=by rw [ao,hMM];exact h1.out
  rw [← ao];clear ao au ar aj h0 h1 hp y0 y1 hn hMM hne tq hcase;obtain⟨ac,ai⟩:∃o,o=ow.cut w:=⟨_,rfl⟩;have ae:zt t (ow.cut w) W1 ac w2:=by rw [ai];exact ae
  rw [← ai] at h2;clear ai;have ah:=h2;replace ah:=hid ah;obtain⟨mb,lv,sl,hB,hS,hM,hR,ea,ed,o1,o2,o3,o4⟩:=h2;obtain⟨la,lc,rfl⟩:=hR.src.shape;have hn:sl.length=M1.acc.length:=by rw [← ea];simp
  obtain⟨⟨p,q2⟩,hp⟩:∃p,sl[j]?=some p:=⟨_,N3 (by rw [hn,← ak.out];exact hj)⟩
  obtain rfl:q'=q2:=by
   have h9:=al.out;rw [← ed,List.getElem?_map,hp] at h9;exact h9.symm
  have an:w2.cell? ⟨sb,j*2+1,none⟩=some (.int .i64 q'):=hS.cellM ((qa hp (j:=1) (by omega)).trans rfl);have aw:w2.cell? ⟨B,18,none⟩=some (.slice la M1.log.length lc):=hB.cellM (qr hln1);have ax:=(N6.1 hlt.out).1;have y2:(0:Int)<=(q':Int):=by omega
  have y3:(q':Int)<(M1.log.length:Int):=by omega
  obtain⟨lb,lo,rfl⟩:∃lb lo,la=some ⟨lb,lo,none⟩:=by
   rcases hR.src.2 with⟨e,h0⟩|⟨b,off,cap,e, -, -⟩
   ·exact absurd h0 (by omega)
   cases e;exact⟨b,off,rfl⟩
  obtain⟨m0,m1,m2⟩:=Zk hR.src hlt.out;simp only at m0 m1 m2;have ay:=am.cell;have af:zt t ow w ac w2:=zt.wrap ag.out ae;have a7:IntKind.i64.wrap ((q':Int)+1)=(q':Int)+1:=by rw [N8];omega
  clear hB hM hR hp ea ed hn o1 o3 o4 ae;go_wp2
  go_quiet (fail)
  obtain⟨W3,ad⟩:∃W3,W3=w2.drewN nq:=⟨_,rfl⟩;have a0:Blk W3 sb (sl.flatMap Zr).toArray 202:=by rw [ad];exact hS.drewN _
  have c3:W3.cell? ⟨sb,j*2+1,none⟩=some (.int .i64 q'):=by rw [ad];exact an
  have aa:zt t ow w ac W3:=by rw [ad];exact af.trans (zt.drewN _ _ _ _)
  have h3:vB B sb M1 t ac W3:=by rw [ad];exact(vB.loc B sb M1 t).below ah.out (qY (N2 _ _) _)
  rw [← ad];clear ad an aw m0 m1 m2 ay am hS;have a8:=a0.frozen (j*2+1);replace h3:=hid h3;replace aa:=hid aa;go_wp2;go_ret
  exact⟨rfl,ac,aa.out.trans (zt.setCell _ _ _ (by show Sub t (ac sb);rw [o2];exact Sub.rfl' t)),h3.out.setDel (by rw [← ak.out];exact hj) al.out⟩
 have tq:((q':Int)==(M.log.length:Int))=true:=by simp;omega
 have aq:=hlay _ _ h1.out;clear hlay;replace aq:=hid aq;go_wp2_with fail
 refine yV [O 0,O 1,O 2,O 3,O 4,O 5,O 6,O 7,O 8,O 9,O 10,O 11,O 12,O 13,E 14,O 15,O 16] (some 14) (λw'=>Blk w' w.heap.size #[.int .i64 kd,.int .i64 j,.int .i64 i,.int .u32 c,.string (bs d)] 80/\w'.cell? ⟨sb,j*2+1,none⟩=some (.int .i64 q')/\w'.cell? ⟨B,18,none⟩=some (.slice la M.log.length lc)/\True) ⟨aj.drew,au,ar,trivial⟩ ?_
 refine Wx ?_
 refine vj rfl (λK hK=>?_);go_wp2_with fail
 refine aq.out.mono ?_;rintro e w2⟨rfl,ac,a3,h2⟩;go_wp2;refine hK.out _ _ ?_;clear hK K
 refine Wg ?_
 refine jM ?_;have ae:zt t (ow.cut w) W1 ac w2:=(zt.drew _ _ _).trans a3;have am:Blk w2 w.heap.size #[.int .i64 kd,.int .i64 j,.int .i64 i,.int .u32 c,.string (bs d)] 80:=aj.kept (ae.block aj.lt (by rw [Own.cut_new (N0 _)];exact zj ht));clear a3 au ar aj h0 h1 hp y0 y1 hn heq tq hcase aq;have ah:=h2;replace ah:=hid ah;obtain⟨mb,lv,sl,hB,hS,hM,hR,ea,ed,o1,o2,o3,o4⟩:=h2;obtain⟨la,lc,rfl⟩:=hR.src.shape;have hn:sl.length=M1.acc.length:=by rw [← ea];simp
 obtain⟨⟨p,q2⟩,hp⟩:∃p,sl[j]?=some p:=⟨_,N3 (by rw [hn,← ak.out];exact hj)⟩
 obtain rfl:q'=q2:=by
  have h9:=al.out;rw [← ed,List.getElem?_map,hp] at h9;exact h9.symm
 have an:w2.cell? ⟨sb,j*2+1,none⟩=some (.int .i64 q'):=hS.cellM ((qa hp (j:=1) (by omega)).trans rfl);have aw:w2.cell? ⟨B,18,none⟩=some (.slice la M1.log.length lc):=hB.cellM (qr hln1);have ax:=(N6.1 hlt.out).1;have y2:(0:Int)<=(q':Int):=by omega
 have y3:(q':Int)<(M1.log.length:Int):=by omega
 obtain⟨lb,lo,rfl⟩:∃lb lo,la=some ⟨lb,lo,none⟩:=by
  rcases hR.src.2 with⟨e,h0⟩|⟨b,off,cap,e, -, -⟩
  ·exact absurd h0 (by omega)
  cases e;exact⟨b,off,rfl⟩
 obtain⟨m0,m1,m2⟩:=Zk hR.src hlt.out;simp only at m0 m1 m2;have ay:=am.cell;have af:zt t ow w ac w2:=zt.wrap ag.out ae;have a7:IntKind.i64.wrap ((q':Int)+1)=(q':Int)+1:=by rw [N8];omega
 clear hB hM hR hp ea ed hn o1 o3 o4 ae;go_wp2
 go_quiet (fail)
 obtain⟨W3,ad⟩:∃W3,W3=w2.drewN nq:=⟨_,rfl⟩;have a0:Blk W3 sb (sl.flatMap Zr).toArray 202:=by rw [ad];exact hS.drewN _
 have c3:W3.cell? ⟨sb,j*2+1,none⟩=some (.int .i64 q'):=by rw [ad];exact an
 have aa:zt t ow w ac W3:=by rw [ad];exact af.trans (zt.drewN _ _ _ _)
 have h3:vB B sb M1 t ac W3:=by rw [ad];exact(vB.loc B sb M1 t).below ah.out (qY (N2 _ _) _)
 rw [← ad];clear ad an aw m0 m1 m2 ay am hS;have a8:=a0.frozen (j*2+1);replace h3:=hid h3;replace aa:=hid aa;go_wp2;go_ret
 exact⟨rfl,ac,aa.out.trans (zt.setCell _ _ _ (by show Sub t (ac sb);rw [o2];exact Sub.rfl' t)),h3.out.setDel (by rw [← ak.out];exact hj) al.out⟩
def zlX(k:Nat):Nat:=match k with
 |1=>72
 |2=>73
 |_=>74
def zkT(B k:Nat):Value:=.func (.func (zlX k)) #[.pointer (some ⟨B,0,none⟩)] #[]
theorem zeB {k:Nat}(h:k=1∨k=2∨k=3):∀args w,(callFunc (zlX k) args).run prog w=.ok (.enter (zlX k) args) w:=by
 rcases h with rfl|rfl|rfl
 ·exact enters_of func72 (by kernel_rfl) rfl
 ·exact enters_of func73 (by kernel_rfl) rfl
 exact enters_of func74 (by kernel_rfl) rfl
def zmZ(B:Nat):List (Int×Value):=[(1,zkT B 1),(2,zkT B 2),(3,zkT B 3)]
theorem zms(B:Nat){k:Nat}(h:k=1∨k=2∨k=3):zE (k:Int) (zmZ B)=some (zkT B k):=by
 rcases h with rfl|rfl|rfl<;>rfl
theorem J3 {B sb:Nat}{M M':Jf}{t:List Nat}{ow:Own}{k n:Nat}{i:Int}{c:Nat}{d:List UInt8}(hk:k=1∨k=2∨k=3)(hn:n<M.acc.length)
 (hcall:∀ow w,vB B sb M t ow w->Calls prog (zlX k) #[.pointer (some ⟨B,0,none⟩),.agg #[.int .i64 (k:Nat),.int .i64 n,.int .i64 i,.int .u32 c,.string (bs d)]] w (J2 B sb M' t ow w (.bool true))) (w:World) (h:vB B sb M t ow w):
 Calls prog 35 #[.pointer (some ⟨B,0,none⟩),.agg #[.int .i64 (k:Nat),.int .i64 n,.int .i64 i,.int .u32 c,.string (bs d)]] w
  (J2 B sb M' t ow w (.int .i64 0)):=by
 have ar:= @run_makeMap prog;obtain⟨W0,ac⟩:∃W0,W0=w.alloc (.cells #[.int .i64 (k:Nat),.int .i64 n,.int .i64 i,.int .u32 c,.string (bs d)] 80):=⟨_,rfl⟩;have hz:W0.heap.size=w.heap.size+1:=by rw [ac];simp
 have an:Below w.heap.size w W0:=by rw [ac];exact zi (N2 _ _) _
 have k0:Blk W0 w.heap.size #[.int .i64 (k:Nat),.int .i64 n,.int .i64 i,.int .u32 c,.string (bs d)] 80:=by rw [ac];exact Blk.new rfl
 have h1:vB B sb M t (ow.cut w) W0:=(vB.loc B sb M t).cut h an;have ak:=zjt W0 h1;have m0:=z6.made W0 zgZ;obtain⟨o1,af,m1⟩:=m0.update vQ Tryz.underlying144 1 (zkT B 1);rw [jl] at af m1;obtain⟨o2,ae,m2⟩:=m1.update vQ Tryz.underlying144 2 (zkT B 2);rw [jl] at ae m2;obtain⟨o3,ah,m3⟩:=m2.update vQ Tryz.underlying144 3 (zkT B 3);rw [jl] at ah m3;rw [hz] at af ae ah m3;clear m0 m1 m2;unfold zkT zlX zgZ at af ae ah;simp only at af ae ah;have aj:z6 (W0.alloc o3) (w.heap.size+1) zgZ (zmZ B):=m3;have ad:=aj.lookup_ok vQ Tryz.underlying144 (z:=.nilFunc) (by kernel_rfl) (k:Int);rw [zms B hk] at ad;simp only [Option.getD_some,Option.isSome_some] at ad;unfold zgZ at ad;have ag:Below w.heap.size w (W0.alloc o3):=zi an _;have k1:=k0.alloc o3;have h2:vB B sb M t (ow.cut w) (W0.alloc o3):=(vB.loc B sb M t).cut h ag;have aa:=zda (n:Int) ⟨by omega,by omega⟩ _ h2;have ai:=hcall _ _ h2;have ap:=zeB hk;unfold zkT at ad;obtain⟨fd,al⟩:∃f,zlX k=f:=⟨_,rfl⟩;rw [al] at ad ap ai;have c1:=k1.cell;have c0:=k0.cell;replace ak:=hid ak;replace aa:=hid aa;replace ai:=hid ai;replace al:=hid al;replace h1:=hid h1;replace h2:=hid h2;replace aj:=hid aj;replace ag:=hid ag;clear m3 hcall k0 h
 go_enter func35,ntmps35
 go_wp2_with fail
 rw [← ac];clear ac;refine ak.out.mono ?_;rintro e w1⟨rfl,am⟩;obtain rfl:=am.symm;go_wp2_with fail
 refine aa.out.mono ?_;rintro e w1⟨rfl,am⟩;obtain rfl:=am.symm;go_wp2_with fail
 refine ai.out.mono ?_;rintro e w2⟨rfl,ao,aq,h3⟩;go_wp2;go_ret
 exact⟨rfl,ao,zt.wrap ag.out aq,h3⟩
theorem zdd {B sb k:Nat}{M M':Jf}{t:List Nat}{ow:Own}(ht:t≠ [])(hM:zhq k M)(hk:k<=90000000)(x:xV)(hs:Jp M x=some M')(w:World)(h:vB B sb M t ow w):
 Calls prog 35 #[.pointer (some ⟨B,0,none⟩),.agg #[.int .i64 x.1,.int .i64 x.2.1,.int .i64 x.2.2.1.1,.int .u32 (x.2.2.1.2:Nat),.string (bs x.2.2.2)]] w (J2 B sb M' t ow w (.int .i64 0)):=by
 obtain⟨kd,nd,⟨i,c⟩,d⟩:=x;unfold Jp at hs;simp only at hs⊢
 split at hs
 ·cases hs
 rename_i h0
 obtain⟨n,rfl⟩:∃n:Nat,nd=n:=⟨nd.toNat,by omega⟩;have hn:n<M.acc.length:=by omega
 simp only [Int.toNat_natCast] at hs
 split at hs
 ·rename_i h1
  subst h1
  split at hs
  ·rename_i h2
   cases hs
   obtain⟨h3,h4,h5⟩:=h2;subst h4;refine J3 (k:=1) (.inl rfl) hn (λow w hw=>?_) w h;have:=zdc (kd:=1) hn h3 h5 (Nat.le_trans (Qo hM.acc n) (by omega)) w hw;rw [← h5];exact this
  cases hs
 split at hs
 ·rename_i h1
  subst h1
  cases hs
  refine J3 (k:=2) (.inr (.inl rfl)) hn (λow w hw=>?_) w h;refine(zdb 2 n i c d w).mono ?_;rintro e w'⟨rfl,hb⟩;exact⟨rfl,ow,zt.of_below t ow hb,(vB.loc B sb _ t).below hw hb⟩
 split at hs
 ·rename_i h1
  subst h1;have aa:=Qo hM.del n
  split at hs
  ·cases hs
  rename_i M1 hM1
  split at hs
  ·rename_i hlt
   cases hs
   refine J3 (k:=3) (.inr (.inr rfl)) hn (λow w hw=>?_) w h
   by_cases hq:M.del[n]?.getD 0=M.log.length
   ·rw [if_pos hq] at hM1
    unfold zlV at hM1
    split at hM1
    ·rename_i h6
     cases hM1
     have hr:zx ((i,c),d)=true:=hM.wait _ (xD h6.1);obtain⟨m,rfl,hm⟩:∃m:Nat,i=m/\m<16:=⟨i.toNat,by simp [zx] at hr;omega,by simp [zx] at hr;omega⟩;have ac:=λow w hw=>zjv (B:=B) (sb:=sb) (t:=t) (ow:=ow) hm hM.ln h6.1 h6.2 (Nat.le_trans (Qo hM.logd _) (by omega)) (by have:=hM.log;omega) w hw
     refine YO (M1:={M with wait:=Go.Proofs.YtofppfoioodblaaGreatDoor.del ((m:Int),c) M.wait,logd:=M.logd.set m (M.logd[m]?.getD 0+1),log:=M.log++ [(((m:Int),c),d)] }) ht hn hM.ln rfl (Nat.le_of_eq hq) (by have:=hM.log;omega) (.inr ⟨hq,λow w hw=>?_⟩) rfl rfl (by simpa using hM.ln) hlt w hw;have h7:c=M.logd[m]?.getD 0+1:=h6.2;rw [← h7];exact ac ow w hw
    cases hM1
   rw [if_neg hq] at hM1
   cases hM1
   exact YO ht hn hM.ln rfl aa (by have:=hM.log;omega) (.inl ⟨hq,rfl⟩) rfl rfl hM.ln hlt w hw
  cases hs
 cases hs
def zmz(h:xV):Value:=.agg #[.int .i64 h.1,.int .i64 h.2.1,.int .i64 h.2.2.1.1,.int .u32 (h.2.2.1.2:Nat),.string (bs h.2.2.2)]
theorem zht(v:Value)(hv:∃a n c,v=.slice a n c)(w:World):Calls prog 70 #[v] w λe w'=>
 e=.returned (.func (.func 113) #[] #[.pointer (some ⟨w.heap.size,0,none⟩)])/\w'=w.alloc (.cells #[v] 40):=by
 obtain⟨a,n,c,rfl⟩:=hv
 go_enter func70,ntmps70
 go_wp2;go_ret
 exact⟨rfl,rfl⟩
theorem zhu(l:List xV)(k:Nat)(x:xV)(h:l[k]?=some x)(j:Nat)(hj:j<5):(l.flatMap jf)[k*5+j]?=(jf x)[j]?:=by
 induction l generalizing k with
 |nil=>simp at h
 |cons y l ih=>
  cases k with
  |zero=>
   simp at h;subst h
   rw [List.flatMap_cons,Nat.zero_mul,Nat.zero_add,U8 (by simp [jf];omega)]
  |succ k=>
   simp at h
   have:=ih k h;rw [List.flatMap_cons,U6 (by simp [jf];omega)];rw [← this]
   congr 1
   simp [jf];omega
theorem zeC(cb:Nat)(v:Value)(l:List xV)(hlen:l.length<=1073741824):
 Qr Fence.wide 2 prog 113 #[.pointer (some ⟨cb,0,none⟩)] (λx:xV=> #[zmz x])
  (λ(k:Nat) x=>l[k]?=some x) (λk _=>k+1) (λk=>k=l.length)
  (λ_ W=>Blk W cb #[v] 40/\Src W v 5 l.length (l.flatMap jf)) 0:=by
 intro lp J Jx W hJ hJx hRd hY h0;obtain⟨r0,r1⟩:=hRd _ _ _ h0;have e0:=r0.cell;have hF:Fence.wide.fn 113:=trivial;have ae:Fence.wide.round=none:=rfl
 rcases r1.2 with⟨rfl,hn⟩|⟨b,off,cap,rfl,hc, -⟩
 ·obtain rfl:l=[]:=N9 hn
  clear r0 r1;refine callsIn_of_wp func113 rfl hF ?_ ae;simp only [ntmps113,R8,Nat.reduceAdd,Nat.reduceSub]
  gi_wp2
  gi_loopw [7] (λp wr=>p=.int .i64 0/\wr=W) (λp _=>0)
  case atStart=>exact⟨rfl,rfl⟩
  case round=>
   obtain⟨rfl,rfl⟩:=hrel
   gi_wp2
   go_end0
   exact⟨⟨_,rfl⟩,.inl ⟨0,_,rfl,h0⟩⟩
 clear r0 r1
 refine callsIn_of_wp func113 rfl hF ?_ ae;simp only [ntmps113,R8,Nat.reduceAdd,Nat.reduceSub]
 gi_wp2
 gi_loopw [7] (λp wr=>∃(k:Nat)(X:Nat->Prop),p=.int .i64 (k:Int)/\k<=l.length/\J k X wr) (λp _=>l.length - (intOf p).toNat)
 case atStart=>exact⟨0,_,rfl,Nat.zero_le _,h0⟩
 case round=>
  obtain⟨k,X,rfl,hk,ac⟩:=hrel;clear e0
  by_cases hlt:k<l.length
  ·obtain⟨x,hx⟩:∃x,l[k]?=some x:=⟨_,N3 hlt⟩
   obtain⟨-,r1⟩:=hRd _ _ _ ac
   rcases r1.2 with⟨h, -⟩|⟨b',off',cap',h, -,hr⟩
   ·cases h
   cases h
   have aa:∀j,j<5->wr.cell? ⟨b,off+(k*5+j),none⟩=(jf x)[j]?:=λj hj=>by
    have h1:=zhu l k x hx j hj
    cases hu:(jf x)[j]? with
    |none=>simp [jf] at hu;omega
    |some u=>exact hr _ u (h1.trans hu)
   have c0:wr.cell? ⟨b,off+k*5,none⟩=(jf x)[0]?:=aa 0 (by omega);have c1:wr.cell? ⟨b,off+k*5+1,none⟩=(jf x)[1]?:=aa 1 (by omega);have c2:wr.cell? ⟨b,off+k*5+2,none⟩=(jf x)[2]?:=aa 2 (by omega);have c3:wr.cell? ⟨b,off+k*5+3,none⟩=(jf x)[3]?:=aa 3 (by omega);have c4:wr.cell? ⟨b,off+k*5+4,none⟩=(jf x)[4]?:=aa 4 (by omega);have ad:=hY k x _ _ (hJ.alloc (.cells (jf x).toArray 80) ac) hx;obtain⟨kd,nd,⟨i,c⟩,d⟩:=x;simp only [jf] at c0 c1 c2 c3 c4 ad;simp only [List.getElem?_cons_zero,List.getElem?_cons_succ] at c0 c1 c2 c3 c4;clear aa hr r1;obtain⟨fn,tmps,assign,body,hy,hR⟩:=ad;unfold zmz at hy
   gi_wp2
   refine hR.mono ?_;rintro e W'(⟨rfl,ag, -⟩|⟨rfl,af⟩)
   ·clear c0 c1 c2 c3 c4 hR hy
    gi_wp2
    go_roundw
    case rel=>exact⟨k+1,_,by go_num,by omega,ag⟩
    case measure=>simp [intOf];omega
   gi_wp2
   refine bodyPost_ret (results_none rfl _ _ _) rfl ?_;exact⟨⟨_,rfl⟩,.inr ⟨_,af⟩⟩
  obtain rfl:k=l.length:=by omega
  gi_wp2
  go_end0
  exact⟨⟨_,rfl⟩,.inl ⟨l.length,X,rfl,ac⟩⟩
theorem zjw(l:List xV):Qs none l=none:=by
 unfold Qs
 induction l with
 |nil=>rfl
 |cons x l ih=>rw [List.foldl_cons];exact ih
theorem zjx {M Me:Jf}{x:xV}{l:List xV}(h:Qs (some M) (x::l)=some Me):∃M',Jp M x=some M'/\Qs (some M') l=some Me:=by
 cases hs:Jp M x with
 |none=>
  have:Qs (some M) (x::l)=Qs none l:=by unfold Qs;rw [List.foldl_cons,Option.bind_some,hs]
  rw [this,zjw] at h;cases h
 |some M'=>exact⟨M',rfl,by rw [← qX hs];exact h⟩
def CkA(B sb eb kb:Nat)(M:Jf)(k:Nat)(ow:Own)(W:World):Prop:=vB B sb M [1,0] ow W/\Blk W eb #[.int .i64 0] 25/\Blk W kb #[.int .i64 (k:Nat)] 3/\ow eb=[1,1] /\ow kb=[1,1]
theorem CkA.loc(B sb eb kb:Nat)(M:Jf)(k:Nat):yI [1] (CkA B sb eb kb M k):=by
 rintro ow ow' W W'⟨h1,h2,h3,h4,h5⟩ hs hk;have k2:=hk eb h2.lt (by rw [h4];exact⟨[1],rfl⟩);have k3:=hk kb h3.lt (by rw [h5];exact⟨[1],rfl⟩);exact⟨vB.loc B sb M [1,0] _ _ _ _ h1 hs (λk hk1 hk2=>hk k hk1 (Sub.trans ⟨[0],rfl⟩ hk2)),h2.kept k2.2,h3.kept k3.2,k2.1.trans h4,k3.1.trans h5⟩
theorem zeD(v:Value)(hv:∃a n c,v=.slice a n c)(w:World):Calls prog 34 #[v] w λe w'=>
 e=.returned (.func (.func 113) #[] #[.pointer (some ⟨w.heap.size,0,none⟩)])/\w'=w.alloc (.cells #[v] 40):=by
 have h:=zht v hv w;obtain⟨a,n,c,rfl⟩:=hv;replace h:=hid h
 go_enter func34,ntmps34
 go_wp2_with fail
 refine h.out.mono ?_;rintro e w1⟨rfl,rfl⟩;go_wp2;go_ret
 exact⟨rfl,rfl⟩
def CkI(B sb eb kb:Nat)(l:List xV)(Me:Jf)(ow0:Own)(W0:World)(k:Nat)(X:Nat->Prop)(W:World):Prop:=
 ∃ow' M,OnW [1] ow0 W0 (CkA B sb eb kb M k) ow' X W/\zhq k M/\Qs (some M) (l.drop k)=some Me/\k<=l.length
theorem zeE(n:Nat)(hn:1<=n/\n<=16)(l:List xV)(hl:l.length<=50000000){Me:Jf}(hrun:Qs (some (QF n)) l=some Me)(v:Value)(w:World)(hv:Src w v 5 l.length (l.flatMap jf))(hvb:∀a m c,v=.slice (some a) m c->a.block<w.heap.size):
 Calls prog 14 #[.int .i64 (n:Nat),v] w λe w'=>e=.returned (.tuple #[.int .i64 (l.length:Nat),.int .i64 0])/\Below w.heap.size w w':=by
 have ae:=zju n hn [1,0] (λ_=>[]) w;have bq:=hv.shape;replace ae:=hid ae;replace hv:=hid hv;replace hvb:=hid hvb;replace hrun:=hid hrun;obtain⟨va,vc,rfl⟩:=bq;refine zm func14 rfl ?_;simp only [ntmps14,R8,Nat.reduceAdd,Nat.reduceSub];go_wp2;go_step3;go_wp2_with fail
 refine ae.out.mono ?_;rintro e w1⟨B,sb,bo,rfl,a8,bb,aw⟩;replace aw:=hid aw;go_wp2;go_step3;go_wp2_with fail
 refine(zeD _ ⟨va,_,vc,rfl⟩ _).mono ?_;rintro e w2⟨rfl,am⟩;obtain⟨z,hz⟩:∃z,w1.heap.size=z:=⟨_,rfl⟩;have ai:Below w1.heap.size w1 w2:=by rw [am];exact pbx
 have kM:Blk w2 z #[.pointer (some ⟨B,0,none⟩)] 81:=by rw [am,← hz];exact bkx
 have kE:Blk w2 (z+1) #[.int .i64 0] 25:=by rw [am,← hz];exact bkx
 have kK:Blk w2 (z+1+1) #[.int .i64 ((0:Nat):Int)] 3:=by rw [am,← hz];exact bkx
 have kC:Blk w2 (z+1+1+1) #[.slice va l.length vc] 40:=by rw [am,← hz];exact Blk.new (by simp)
 have a6:(((w1.alloc (.cells #[.pointer (some ⟨B,0,none⟩)] 81)).alloc (.cells #[.int .i64 0] 25)).alloc (.cells #[.int .i64 0] 3)).heap.size=z+1+1+1:=by rw [← hz];simp
 rw [a6];have bt:w.heap.size<=z:=by rw [← hz];exact bb.size
 have bh:z<w2.heap.size:=kM.lt;have ao:Below w.heap.size w w2:=zh bb ai;have bm:Src w2 (.slice va l.length vc) 5 l.length (l.flatMap jf):=hv.out.below ao;obtain⟨ac,aa⟩:∃o,o=bo.ext z (λk=>k=z+1∨k=z+1+1) [1,1]:=⟨_,rfl⟩;have bp:vB B sb (QF n) [1,0] ac w2:=vB.loc B sb _ _ _ _ _ _ aw.out ai.size (λk hk _=>⟨by rw [aa,Own.ext_old (by omega)],ai.block k hk⟩);have oE:ac (z+1)=[1,1]:=by rw [aa];exact Own.ext_new (by omega) (.inl rfl)
 have oK:ac (z+1+1)=[1,1]:=by rw [aa];exact Own.ext_new (by omega) (.inr rfl)
 have oM:ac z=[]:=by rw [aa];exact Own.ext_none (by omega) (by omega)
 have oC:ac (z+1+1+1)=[]:=by rw [aa];exact Own.ext_none (by omega) (by omega)
 have oV:∀k,k<w.heap.size->ac k=[]:=λk hk=>by rw [aa,Own.ext_old (by omega),a8.agree k hk]
 have af:∀ow' W,zt [1] ac w2 ow' W->∀k,k<w2.heap.size->ac k=[] ->W.heap[k]?=w2.heap[k]?:=λow' W hs k h1 h2=>hs.block h1 (by rw [h2];exact zj (by simp))
 clear am a8 aw aa a6 ae;go_wp2
 refine yJ (gf:=113) (lb:=#[.pointer (some ⟨z+1+1+1,0,none⟩)]) rfl (enters_of func113 (by kernel_rfl) rfl)
  (zeC (z+1+1+1) (.slice va l.length vc) l (by omega)) (λ_=>rfl)
  (CkI B sb (z+1) (z+1+1) l Me ac w2)
  (λ_ _ _=>False)
  (λk X X' W W' h hm hx=>by obtain⟨ow',M,h1,h2⟩:=h;exact⟨_,M,h1.stab (by simp) (CkA.loc B sb _ _ M k) hm hx,h2⟩)
  (λ_ _ X X' W W' h hm hx=>h)
  (λk X W h=>by
   obtain⟨ow',M,h1, -⟩:=h;refine⟨kC.kept (af _ _ h1.st _ kC.lt oC),bm.step h1.st (λa m c e=>?_)⟩
   rw [oV _ (hvb.out a m c e)];exact zj (by simp))
  (λk X W h=>by obtain⟨ow',M,h1, -⟩:=h;exact⟨h1.st.size,λk hk=>(h1.xs k hk).2.1⟩)
  ⟨ac,QF n,⟨⟨bp,kE,kK,oE,oK⟩,zt.refl _ _ _,λk h=>h.elim⟩,zlS hn.2,hrun.out,Nat.zero_le _⟩
  9 80 (λx=> #[.int .i64 x.1,.int .i64 x.2.1,.int .i64 x.2.2.1.1,.int .u32 (x.2.2.1.2:Nat),.string (bs x.2.2.2)]) ?assign ?body ?done ?stop
 case assign=>
  intro l' x W K hK;rw [zW] at hK⊢;unfold zmz at hK⊢
  gi_wp2
  exact hK
 case stop=>rintro D c X W hD bj h;exact h.elim
 case body=>
  rintro l' k x cb X X1 W1 W bl⟨ow',M,ah,ay,ar,hk⟩ ba bv bw bz kx b0 _;have bg:=(N6.1 ba).1;have bc:l.drop k=x::l.drop (k+1):=by rw [List.drop_eq_getElem_cons bg,(N6.1 ba).2]
  rw [bc] at ar;obtain⟨M',ax,ag⟩:=zjx ar;obtain⟨a3,au,aq,a1,a2⟩:=ah.is;have ak:=zdd (t:=[1,0]) (by simp) ay (by omega) x ax W a3;have al:=ay.step ax;have cM:=(kM.kept (af _ _ ah.st _ bh oM)).cell;have cx:=kx.cell;have bu:IntKind.i64.wrap ((k:Int)+1)=(k:Int)+1:=by rw [N8];omega
  have lE:=au.lt;have lK:=aq.lt;rw [zW];unfold zmz;replace ak:=hid ak;replace ag:=hid ag;replace al:=hid al;clear bl ax ar bc
  gi_wp2_with fail
  refine(inRound _ _ ak.out).mono ?_;rintro e w5⟨rfl,ad,ap,bi⟩;have a0:=au.kept (ap.block lE (by rw [a1];unfold Sub;decide));have bf:=aq.kept (ap.block lK (by rw [a2];unfold Sub;decide));have cE:=a0.cell;have fE:=a0.frozen;have be:(z+1+1)≠(z+1):=by omega
  have az:=bf.other (p:=⟨z+1,0,none⟩) be (.int .i64 0);have cK:=az.cell;have fK:=az.frozen
  gi_wp2
  have a7:ad (z+1)=[1,1]:=(ap.agree _ lE).trans a1;have a9:ad (z+1+1)=[1,1]:=(ap.agree _ lK).trans a2;have a5:zt [1,1] ad w5 ad (w5.setCell ⟨z+1,0,none⟩ (.int .i64 0)):=zt.setCell _ _ _ (by show Sub [1,1] (ad (z+1));rw [a7];exact Sub.rfl' _);have bd:zt [1,1] ad (w5.setCell ⟨z+1,0,none⟩ (.int .i64 0)) ad ((w5.setCell ⟨z+1,0,none⟩ (.int .i64 0)).setCell ⟨z+1+1,0,none⟩ (.int .i64 ((k:Int)+1))):=zt.setCell _ _ _ (by show Sub [1,1] (ad (z+1+1));rw [a9];exact Sub.rfl' _);have bk:zfH [1,1] [1,0]:=by unfold zfH Sub;decide
  have br:=(vB.loc B sb M' [1,0]).step bi (a5.trans bd) bk;have an:zt [1] ow' W ad ((w5.setCell ⟨z+1,0,none⟩ (.int .i64 0)).setCell ⟨z+1+1,0,none⟩ (.int .i64 ((k:Int)+1))):=(ap.mono ⟨[0],rfl⟩).trans ((a5.trans bd).mono ⟨[1],rfl⟩);exact⟨⟨ad,M',ah.step an ⟨br,(a0.set _).other (p:=⟨z+1+1,0,none⟩) be.symm _,az.set _,a7,a9⟩,al.out,ag.out,by omega⟩,ah.saves (by simp) an⟩
 case done=>
  rintro D k X W hD bj a4⟨ow',M,ah,ay,ar,hk⟩ aj;obtain rfl:k=l.length:=a4;obtain⟨a3,au,aq,a1,a2⟩:=ah.is;have cE:=au.cell;have cK:=aq.cell;have bn:Below w.heap.size w W:=ao.trans (ah.st.below (by omega) (λk hk=>by rw [oV k hk];exact zj (by simp)));replace aj:=hid aj;clear a3;go_wp2
  go_quiet (fail)
  go_wp2;rw [Exit.noGoto_ret];exact jb (D:=D) (v:=.tuple #[.int .i64 (l.length:Nat),.int .i64 0]) (show(W.drewN nq).heap[D]?=_ from aj.out) (by simp [results,Tryz.results14,go_sem]) ⟨rfl,zM (qY bn _) (by omega) _⟩
