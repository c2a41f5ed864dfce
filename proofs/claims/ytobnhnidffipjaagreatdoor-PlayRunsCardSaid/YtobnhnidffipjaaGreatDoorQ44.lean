/- PARTS OF THE PROOF. -/
import Derived.Test.YtobnhnidffipjaaGreatDoorQ43
set_option maxRecDepth 8000
set_option maxHeartbeats 4000000
open Go.Proofs.Tryz
namespace Go.Proofs.YtobnhnidffipjaaGreatDoor
section
open Go Go.RowKit Go.Shelf Go.Extern.Stop Go.Stop Go.Extern
attribute [local go_sem] Oper.semAt_some zw zn
theorem Qz(f:xU->Nat)(c:Nat):∀(l:List xU),(∀s∈l,f s<=c)->(l.map f).sum<=l.length*c
 | [],_=>by simp
 |x::l,h=>by
  have h1:=Qz f c l (λs hs=>h s (U7 _ hs));have h2:=h x (List.mem_cons_self ..);rw [List.map_cons,List.sum_cons,List.length_cons,Nat.add_mul];omega
theorem zr.traceLe {v:Int}{k L:Nat}{S:zj}(h:zr v k L S):S.trace.length<=k+12104128:=by
 have h1:=Qz (λs=>s.accepted+s.delivered) 756508 S.seats (λs hs=>by
  obtain⟨i,hi⟩:=List.mem_iff_getElem?.1 hs;have:=h.seats i s hi
  show s.accepted+s.delivered<=_
  omega)
 have h2:=h.seatsN;have h3:=h.n0;have h4:=h.trace;have h5:S.seats.length*756508<=16*756508:=Nat.mul_le_mul_right _ (by omega);omega
def J8(S:zj)(d:Bool)(j:Nat):zj:=(List.range j).foldl (λw i=>tellOne w d i) S
theorem QA(S:zj)(d:Bool)(j:Nat):J8 S d (j+1)=tellOne (J8 S d j) d j:=by
 unfold J8;rw [List.range_succ,List.foldl_append];rfl
theorem Jj(S:zj)(d:Bool)(j:Nat):(J8 S d j).nodes=S.nodes:=xX d _ S
theorem zr.told {v:Int}{k L:Nat}{S:zj}(h:zr v k L S)(d:Bool){j:Nat}(hj:j<=S.nodes.length):zr v k L (J8 S d j):=
 zr.tells d _ S h (λi hi=>by have:=List.mem_range.1 hi;omega)
theorem QB {S:zj}{d:Bool}{i:Nat}{s:xU}(h:jG S i=s)(h1:s.stale=false)(h2:s.lent=false):tellOne S d i=S:=by
 unfold tellOne;simp only [h,h1,h2];rfl
theorem Xt {S:zj}{i:Nat}{s:xU}{n:zv}(h:jG S i=s)(h1:(s.stale||s.lent)=true)(hn:zt S i=n):tellOne S false i={setSeat S i {s with accepted:=max s.accepted n.acc.length} with trace:=S.trace++(n.acc.drop s.accepted).map λm=>((1:Int),(i:Int),m)} :=by
 unfold tellOne;simp only [h,h1,hn];rfl
theorem Xu {S:zj}{i:Nat}{s:xU}{n:zv}(h:jG S i=s)(h1:(s.stale||s.lent)=true)(hn:zt S i=n):tellOne S true i={setSeat S i {s with delivered:=max s.delivered n.loc.log.length,stale:=false} with trace:=S.trace++(n.loc.log.drop s.delivered).map λm=>((3:Int),(i:Int),m)} :=by
 unfold tellOne;simp only [h,h1,hn];rfl
theorem J9(S:zj)(i:Nat)(s s':xU):setSeat (setSeat S i s) i s'=setSeat S i s':=by
 unfold setSeat;simp
theorem Xv {S:zj}{i:Nat}{s0 s:xU}(h:S.seats[i]?=some s0):(setSeat S i s).seats[i]?=some s:=by
 unfold setSeat;exact List.getElem?_set_self (N6.1 h).1
theorem zbX(B:Nat)(K:WK)(S:zj){v:Int}{k0 L:Nat}(hG:zr v k0 L S)(hk:k0<=100000000)(t:List Nat)(ht:t≠ [])(ow:Own)(w:World)(h:zy B K S t ow w):
 Calls prog 36 #[.pointer (some ⟨B,0,none⟩)] w (vi B K (ZN S) t ow w (.tuple #[])):=by
 obtain⟨N,hNA⟩:∃N,S.nodes.length=N:=⟨_,rfl⟩;have hN16:N<=16:=by have:=hG.n0;omega
 have hadd:=λ(S':zj) ow kind at' told l mv W hW h1 h2 h3 h4=>ziU B K S' t ht ow kind at' told l mv W hW h1 h2 h3 h4
 replace hadd:=G hadd;obtain⟨tv0,lp0,hI0⟩:=h;have hB0:=hI0.blk;rw [hNA] at hB0;have e0:=hB0.cell;have hGA:=hG;obtain⟨SA,hSA⟩:∃SA,S=SA:=⟨_,rfl⟩;rw [hSA] at hGA hNA hI0;have hI0':=hI0;replace hI0:=G hI0;replace hGA:=G hGA
 go_enter func36,ntmps36
 go_wp2
 go_loopw [13] (λp13 wr=>∃(j:Nat)(ow1:Own),p13=.int .i64 (j:Nat)/\j<=N/\zq t ow w ow1 wr/\zy B K (J8 SA false j) t ow1 wr) (λp13 _=>N - (intOf p13).toNat)
 case atStart=>exact⟨0,ow,rfl,by omega,zq.refl _ _ _,tv0,lp0,hI0'⟩
 case round=>
  clear e0 hI0' hG hB0;obtain⟨j,ow1,rfl,hj,hst,hW⟩:=hrel;have y0:(0:Int)<=(j:Int):=by omega
  have hwj:j<16->IntKind.i64.wrap ((j:Int)+1)=(j:Int)+1:=λ_=>by rw [N8];omega
  by_cases hjN:j<N
  ·skip
   have t2:decide ((j:Int)<(N:Int))=true:=by simpa using hjN
   have y1:(j:Int)<(N:Int):=by omega
   have hwj:=hwj (by omega);have hG1:=hGA.out.told false (j:=j) (by have:=hNA;omega);have hsc:=QA SA false j;have hnn:=Jj SA false j;obtain⟨S1,hS1⟩:∃S1,J8 SA false j=S1:=⟨_,rfl⟩;rw [hS1] at hG1 hW hsc hnn;have hl1:S1.nodes.length=N:=by rw [hnn];exact hNA
   obtain⟨tv1,lp1,hI1⟩:=hW;obtain⟨n,hn1⟩:∃n,zt S1 j=n:=⟨_,rfl⟩;have hnd:=hG1.node (i:=j) (by omega);rw [hn1] at hnd;obtain⟨b,hnb,px,sb,lb,pb,av,hNd⟩:=hI1.node (by omega) hnd.1;have hnc:=hI1.nodeCell hnb;have hfew:=hnd.2.few;have hsB:=hG1.seats j _ (hG1.seat (by omega));have hse:=hG1.seat (i:=j) (by omega);obtain⟨⟨sg,sa,sd,st,sl⟩,hsd⟩:∃s,jG S1 j=s:=⟨_,rfl⟩;rw [hsd] at hse hsB;simp only at hsB;have hB1:=hI1.blk;rw [hl1] at hB1;have e1:=hB1.cell;obtain⟨os,ol,hsr⟩:=hI1.srow;have g1:wr.cell? ⟨K.sb,j*5+1,none⟩=some (.int .i64 (sa:Nat)):=hsr.cellL (jt hse (j:=1) (by decide));have g2:wr.cell? ⟨K.sb,j*5+2,none⟩=some (.int .i64 (sd:Nat)):=hsr.cellL (jt hse (j:=2) (by decide));have g3:wr.cell? ⟨K.sb,j*5+3,none⟩=some (.bool st):=hsr.cellL (jt hse (j:=3) (by decide));have g4:wr.cell? ⟨K.sb,j*5+4,none⟩=some (.bool sl):=hsr.cellL (jt hse (j:=4) (by decide));have hacc:=λW hW=>JQ (px:=px) (sb:=sb) (lb:=lb) (pb:=pb) (av:=av) (n:=n) (B:=b) (t:=t++ [j]) (ow:=ow1) W hW (by have:=hfew.1;omega)
   have hloc:=λW hW=>Ys (px:=px) (sb:=sb) (lb:=lb) (pb:=pb) (av:=av) (n:=n) (B:=b) W hW
   have hlog:=λW hW=>QR lb n.loc (t++ [j] ++ [2]) ow1 W hW (by have:=hfew.2;omega)
   replace hacc:=G hacc;replace hloc:=G hloc;replace hlog:=G hlog;replace hnd:=G hnd;replace hn1:=G hn1;replace hnn:=G hnn;replace hsd:=G hsd;replace hse:=G hse;replace hsc:=G hsc;replace hS1:=G hS1;replace hl1:=G hl1;replace hnb:=G hnb;replace hNd:=G hNd;replace hG1:=G hG1;replace hI1:=G hI1;replace hst:=G hst;replace hB1:=G hB1;replace hsr:=G hsr
   cases st with
   |true=>
    go_wp2_with fail
    refine zd [O 0,O 1,O 2,O 3,O 4,O 5,O 6,O 7,E 8,E 9,O 10,O 11,E 12] (some 12) (λw'=>w'.cell? ⟨K.sb,j*5+1,none⟩=some (.int .i64 (sa:Nat))/\True) (by kernel_rfl) (by kernel_rfl) ⟨g1,trivial⟩ ?_
    (repeat (refine za (v:=?_) rfl rfl (λw' h=>?_) (λK k=>?_);rotate_left;obtain⟨f1,_⟩:=h;go_simp;(try with_reducible rfl);go_simp;refine k _ ?_;clear k K))
    refine zc rfl (λJ hJ=>?_);go_wp2_with fail
    refine(hacc.out _ ((zx.loc b px sb lb pb av n (t++ [j])).below hNd.out (zo (N2 _ _)))).mono ?_;rintro e w2⟨v2,rfl,hrow2,hb2,hnew2⟩;have hb12:Below wr.heap.size wr w2:=zf (zo (N2 _ _)) hb2;have g2:w2.cell? ⟨K.sb,j*5+1,none⟩=some (.int .i64 (sa:Nat)):=(hb12.cell (jH g1)).trans g1;obtain⟨a2,m2,c2,rfl⟩:=hrow2.shape;go_wp2;refine hJ.out _ _ (λ_=>⟨g2,trivial⟩) ?_;clear hJ J;have had:=hadd.out S1 (ow1.cut wr) 1 (j:Int) sa n.acc (.slice a2 m2 c2) w2 ⟨_,_,(zk.loc B K _ _ _ t).cut hI1.out hb12⟩ hrow2.src (λa l c e=>Own.cut_new (by cases e;exact hnew2 _ rfl)) (by have:=hfew.1;have:=hG1.out.traceLe;omega) (by omega);replace hrow2:=G hrow2;replace hnew2:=G hnew2;refine zc rfl (λJ hJ=>?_);go_wp2_with fail
    refine had.mono ?_;rintro e w3⟨rfl,ow3,hs3,tv3,lp3,hI3⟩;obtain⟨os3,ol3,hsr3⟩:=hI3.srow;have g3:w3.cell? ⟨K.sb,j*5+1,none⟩=some (.int .i64 (sa:Nat)):=hsr3.cellL (jt hse.out (j:=1) (by decide));have f3:=hsr3.frozen;have l3:=hsr3.lt;obtain⟨hs4,hI4⟩:=hI3.setSeat (i:=j) (j:=1) (s':=⟨sg,max sa n.acc.length,sd,true,sl⟩) (v:=.int .i64 (max sa n.acc.length:Nat)) hse.out (by decide) rfl;go_wp2;refine hJ.out _ _ (λ_=>⟨g3,trivial⟩) ?_;clear hJ J;replace hI3:=G hI3;replace hI4:=G hI4;replace hsr3:=G hsr3
    (repeat (refine za (v:=?_) rfl rfl (λw' h=>?_) (λK k=>?_);rotate_left;obtain⟨f1,_⟩:=h;go_simp;(try with_reducible rfl);go_simp;refine k _ ?_;clear k K))
    refine zc rfl (λJ hJ=>?_);go_wp2;refine hJ.out _ _ (λhh=>absurd rfl hh) ?_;clear hJ J;refine ze ?_;go_wp2
    go_roundw
    case rel=>
     refine⟨j+1,ow3,by simp,by omega,hst.out.trans (zq.wrap hb12 (hs3.trans (hs4.mono (Sub.child t 21)))),?_⟩;rw [hsc.out,Xt hsd.out (by simp) hn1.out];exact⟨tv3,lp3,hI4.out⟩
    case measure=>simp [intOf];omega
   |false=>
    cases sl with
    |true=>
     go_wp2_with fail
     refine zd [O 0,O 1,O 2,O 3,O 4,O 5,O 6,O 7,E 8,E 9,O 10,O 11,E 12] (some 12) (λw'=>w'.cell? ⟨K.sb,j*5+1,none⟩=some (.int .i64 (sa:Nat))/\True) (by kernel_rfl) (by kernel_rfl) ⟨g1,trivial⟩ ?_
     (repeat (refine za (v:=?_) rfl rfl (λw' h=>?_) (λK k=>?_);rotate_left;obtain⟨f1,_⟩:=h;go_simp;(try with_reducible rfl);go_simp;refine k _ ?_;clear k K))
     refine zc rfl (λJ hJ=>?_);go_wp2_with fail
     refine(hacc.out _ ((zx.loc b px sb lb pb av n (t++ [j])).below hNd.out (zo (N2 _ _)))).mono ?_;rintro e w2⟨v2,rfl,hrow2,hb2,hnew2⟩;have hb12:Below wr.heap.size wr w2:=zf (zo (N2 _ _)) hb2;have g2:w2.cell? ⟨K.sb,j*5+1,none⟩=some (.int .i64 (sa:Nat)):=(hb12.cell (jH g1)).trans g1;obtain⟨a2,m2,c2,rfl⟩:=hrow2.shape;go_wp2;refine hJ.out _ _ (λ_=>⟨g2,trivial⟩) ?_;clear hJ J;have had:=hadd.out S1 (ow1.cut wr) 1 (j:Int) sa n.acc (.slice a2 m2 c2) w2 ⟨_,_,(zk.loc B K _ _ _ t).cut hI1.out hb12⟩ hrow2.src (λa l c e=>Own.cut_new (by cases e;exact hnew2 _ rfl)) (by have:=hfew.1;have:=hG1.out.traceLe;omega) (by omega);replace hrow2:=G hrow2;replace hnew2:=G hnew2;refine zc rfl (λJ hJ=>?_);go_wp2_with fail
     refine had.mono ?_;rintro e w3⟨rfl,ow3,hs3,tv3,lp3,hI3⟩;obtain⟨os3,ol3,hsr3⟩:=hI3.srow;have g3:w3.cell? ⟨K.sb,j*5+1,none⟩=some (.int .i64 (sa:Nat)):=hsr3.cellL (jt hse.out (j:=1) (by decide));have f3:=hsr3.frozen;have l3:=hsr3.lt;obtain⟨hs4,hI4⟩:=hI3.setSeat (i:=j) (j:=1) (s':=⟨sg,max sa n.acc.length,sd,false,true⟩) (v:=.int .i64 (max sa n.acc.length:Nat)) hse.out (by decide) rfl;go_wp2;refine hJ.out _ _ (λ_=>⟨g3,trivial⟩) ?_;clear hJ J;replace hI3:=G hI3;replace hI4:=G hI4;replace hsr3:=G hsr3
     (repeat (refine za (v:=?_) rfl rfl (λw' h=>?_) (λK k=>?_);rotate_left;obtain⟨f1,_⟩:=h;go_simp;(try with_reducible rfl);go_simp;refine k _ ?_;clear k K))
     refine zc rfl (λJ hJ=>?_);go_wp2;refine hJ.out _ _ (λhh=>absurd rfl hh) ?_;clear hJ J;refine ze ?_;go_wp2
     go_roundw
     case rel=>
      refine⟨j+1,ow3,by simp,by omega,hst.out.trans (zq.wrap hb12 (hs3.trans (hs4.mono (Sub.child t 21)))),?_⟩;rw [hsc.out,Xt hsd.out (by simp) hn1.out];exact⟨tv3,lp3,hI4.out⟩
     case measure=>simp [intOf];omega
    |false=>
     go_wp2
     go_roundw
     case rel=>exact⟨j+1,ow1,by simp,by omega,hst.out,by rw [hsc.out,QB hsd.out rfl rfl];exact⟨_,_,hI1.out⟩⟩
     case measure=>simp [intOf];omega
  ·obtain rfl:N=j:=by omega
   have t2:decide ((N:Int)<(N:Int))=false:=by simp
   have hGB:=hGA.out.told false (j:=N) (by omega);have hNB:(J8 SA false N).nodes.length=N:=by rw [Jj];exact hNA
   have hend:ZN SA=J8 (J8 SA false N) true N:=by unfold ZN J8;rw [hNA]
   obtain⟨SB,hSB⟩:∃SB,J8 SA false N=SB:=⟨_,rfl⟩;rw [hSB] at hW hGB hNB hend;rw [← hSA] at hend;obtain⟨tv1,lp1,hI1⟩:=hW;have hB1:=hI1.blk;rw [hNB] at hB1;have e1:=hB1.cell;have hI1':=hI1;have hst0:=hst;replace hI1:=G hI1;replace hGB:=G hGB;replace hend:=G hend;replace hNB:=G hNB;replace hSB:=G hSB;replace hst0:=G hst0;go_wp2;clear hwj hj hjN hst
   go_loopw [52] (λp52 wr=>∃(j:Nat)(ow1:Own),p52=.int .i64 (j:Nat)/\j<=N/\zq t ow w ow1 wr/\zy B K (J8 SB true j) t ow1 wr) (λp52 _=>N - (intOf p52).toNat)
   case atStart=>exact⟨0,ow1,rfl,by omega,hst0.out,tv1,lp1,hI1'⟩
   case round=>
    clear e1 hI1' hB1 hI1 hst0;obtain⟨j,ow1,rfl,hj,hst,hW⟩:=hrel;have y0:(0:Int)<=(j:Int):=by omega
    have hwj:j<16->IntKind.i64.wrap ((j:Int)+1)=(j:Int)+1:=λ_=>by rw [N8];omega
    by_cases hjN:j<N
    ·skip
     have t2:decide ((j:Int)<(N:Int))=true:=by simpa using hjN
     have y1:(j:Int)<(N:Int):=by omega
     have hwj:=hwj (by omega);have hG1:=hGB.out.told true (j:=j) (by have:=hNB.out;omega);have hsc:=QA SB true j;have hnn:=Jj SB true j;obtain⟨S1,hS1⟩:∃S1,J8 SB true j=S1:=⟨_,rfl⟩;rw [hS1] at hG1 hW hsc hnn;have hl1:S1.nodes.length=N:=by rw [hnn];exact hNB.out
     obtain⟨tv1,lp1,hI1⟩:=hW;obtain⟨n,hn1⟩:∃n,zt S1 j=n:=⟨_,rfl⟩;have hnd:=hG1.node (i:=j) (by omega);rw [hn1] at hnd;obtain⟨b,hnb,px,sb,lb,pb,av,hNd⟩:=hI1.node (by omega) hnd.1;have hnc:=hI1.nodeCell hnb;have hfew:=hnd.2.few;have hsB:=hG1.seats j _ (hG1.seat (by omega));have hse:=hG1.seat (i:=j) (by omega);obtain⟨⟨sg,sa,sd,st,sl⟩,hsd⟩:∃s,jG S1 j=s:=⟨_,rfl⟩;rw [hsd] at hse hsB;simp only at hsB;have hB1:=hI1.blk;rw [hl1] at hB1;have e1:=hB1.cell;obtain⟨os,ol,hsr⟩:=hI1.srow;have g1:wr.cell? ⟨K.sb,j*5+1,none⟩=some (.int .i64 (sa:Nat)):=hsr.cellL (jt hse (j:=1) (by decide));have g2:wr.cell? ⟨K.sb,j*5+2,none⟩=some (.int .i64 (sd:Nat)):=hsr.cellL (jt hse (j:=2) (by decide));have g3:wr.cell? ⟨K.sb,j*5+3,none⟩=some (.bool st):=hsr.cellL (jt hse (j:=3) (by decide));have g4:wr.cell? ⟨K.sb,j*5+4,none⟩=some (.bool sl):=hsr.cellL (jt hse (j:=4) (by decide));have hacc:=λW hW=>JQ (px:=px) (sb:=sb) (lb:=lb) (pb:=pb) (av:=av) (n:=n) (B:=b) (t:=t++ [j]) (ow:=ow1) W hW (by have:=hfew.1;omega)
     have hloc:=λW hW=>Ys (px:=px) (sb:=sb) (lb:=lb) (pb:=pb) (av:=av) (n:=n) (B:=b) W hW
     have hlog:=λW hW=>QR lb n.loc (t++ [j] ++ [2]) ow1 W hW (by have:=hfew.2;omega)
     replace hacc:=G hacc;replace hloc:=G hloc;replace hlog:=G hlog;replace hnd:=G hnd;replace hn1:=G hn1;replace hnn:=G hnn;replace hsd:=G hsd;replace hse:=G hse;replace hsc:=G hsc;replace hS1:=G hS1;replace hl1:=G hl1;replace hnb:=G hnb;replace hNd:=G hNd;replace hG1:=G hG1;replace hI1:=G hI1;replace hst:=G hst;replace hB1:=G hB1;replace hsr:=G hsr
     cases st with
     |true=>
      go_wp2_with fail
      refine zd [O 0,O 1,O 2,O 3,O 4,O 5,O 6,O 7,E 8,E 9,E 10,O 11,O 12,E 13] (some 13) (λw'=>w'.cell? ⟨K.sb,j*5+2,none⟩=some (.int .i64 (sd:Nat))/\True) (by kernel_rfl) (by kernel_rfl) ⟨g2,trivial⟩ ?_
      (repeat (refine za (v:=?_) rfl rfl (λw' h=>?_) (λK k=>?_);rotate_left;obtain⟨f1,_⟩:=h;go_simp;(try with_reducible rfl);go_simp;refine k _ ?_;clear k K))
      refine zc rfl (λJ hJ=>?_);go_wp2_with fail
      refine(hloc.out _ ((zx.loc b px sb lb pb av n (t++ [j])).below hNd.out (zo (N2 _ _))).blk).mono ?_;rintro e w1⟨rfl,hw1⟩;obtain rfl:=hw1.symm;go_wp2;refine hJ.out _ _ (λ_=>⟨g2,trivial⟩) ?_;clear hJ J;refine zc rfl (λJ hJ=>?_);go_wp2_with fail
      refine(hlog.out _ ((zx.loc b px sb lb pb av n (t++ [j])).below hNd.out (zo (N2 _ _))).lo).mono ?_;rintro e w2⟨v2,rfl,hrow2,hb2,hnew2⟩;have hb12:Below wr.heap.size wr w2:=zf (zo (N2 _ _)) hb2;have g22:w2.cell? ⟨K.sb,j*5+2,none⟩=some (.int .i64 (sd:Nat)):=(hb12.cell (jH g2)).trans g2;obtain⟨a2,m2,c2,rfl⟩:=hrow2.shape;go_wp2;refine hJ.out _ _ (λ_=>⟨g22,trivial⟩) ?_;clear hJ J;have had:=hadd.out S1 (ow1.cut wr) 3 (j:Int) sd n.loc.log (.slice a2 m2 c2) w2 ⟨_,_,(zk.loc B K _ _ _ t).cut hI1.out hb12⟩ hrow2.src (λa l c e=>Own.cut_new (by cases e;exact hnew2 _ rfl)) (by have:=hfew.2;have:=hG1.out.traceLe;omega) (by omega);replace hrow2:=G hrow2;replace hnew2:=G hnew2;refine zc rfl (λJ hJ=>?_);go_wp2_with fail
      refine had.mono ?_;rintro e w3⟨rfl,ow3,hs3,tv3,lp3,hI3⟩;obtain⟨os3,ol3,hsr3⟩:=hI3.srow;have g3:w3.cell? ⟨K.sb,j*5+2,none⟩=some (.int .i64 (sd:Nat)):=hsr3.cellL (jt hse.out (j:=2) (by decide));have f3:=hsr3.frozen;have l3:=hsr3.lt;obtain⟨hs4,hI4⟩:=hI3.setSeat (i:=j) (j:=2) (s':=⟨sg,sa,max sd n.loc.log.length,true,sl⟩) (v:=.int .i64 (max sd n.loc.log.length:Nat)) hse.out (by decide) rfl;obtain⟨os4,ol4,hsr4⟩:=hI4.srow;have hse4:=Xv (s:=⟨sg,sa,max sd n.loc.log.length,true,sl⟩) hse.out;have g4:=hsr4.cellL (jt hse4 (j:=3) (by decide));have f4:=hsr4.frozen;have l4:=hsr4.lt;obtain⟨hs5,hI5⟩:=hI4.setSeat (i:=j) (j:=3) (s':=⟨sg,sa,max sd n.loc.log.length,false,sl⟩) (v:=.bool false) hse4 (by decide) rfl;go_wp2;refine hJ.out _ _ (λ_=>⟨g3,trivial⟩) ?_;clear hJ J;replace hI3:=G hI3;replace hI4:=G hI4;replace hI5:=G hI5;replace hsr3:=G hsr3;replace hsr4:=G hsr4;replace hse4:=G hse4
      (repeat (refine za (v:=?_) rfl rfl (λw' h=>?_) (λK k=>?_);rotate_left;obtain⟨f1,_⟩:=h;go_simp;(try with_reducible rfl);go_simp;refine k _ ?_;clear k K))
      refine zc rfl (λJ hJ=>?_);go_wp2;refine hJ.out _ _ (λhh=>absurd rfl hh) ?_;clear hJ J;refine ze ?_;go_wp2
      go_roundw
      case rel=>
       refine⟨j+1,ow3,by simp,by omega,hst.out.trans (zq.wrap hb12 (hs3.trans ((hs4.mono (Sub.child t 21)).trans (hs5.mono (Sub.child t 21))))),?_⟩;rw [hsc.out,Xu hsd.out (by simp) hn1.out];have:=hI5.out;rw [J9] at this;exact⟨tv3,lp3,this⟩
      case measure=>simp [intOf];omega
     |false=>
      cases sl with
      |true=>
       go_wp2_with fail
       refine zd [O 0,O 1,O 2,O 3,O 4,O 5,O 6,O 7,E 8,E 9,E 10,O 11,O 12,E 13] (some 13) (λw'=>w'.cell? ⟨K.sb,j*5+2,none⟩=some (.int .i64 (sd:Nat))/\True) (by kernel_rfl) (by kernel_rfl) ⟨g2,trivial⟩ ?_
       (repeat (refine za (v:=?_) rfl rfl (λw' h=>?_) (λK k=>?_);rotate_left;obtain⟨f1,_⟩:=h;go_simp;(try with_reducible rfl);go_simp;refine k _ ?_;clear k K))
       refine zc rfl (λJ hJ=>?_);go_wp2_with fail
       refine(hloc.out _ ((zx.loc b px sb lb pb av n (t++ [j])).below hNd.out (zo (N2 _ _))).blk).mono ?_;rintro e w1⟨rfl,hw1⟩;obtain rfl:=hw1.symm;go_wp2;refine hJ.out _ _ (λ_=>⟨g2,trivial⟩) ?_;clear hJ J;refine zc rfl (λJ hJ=>?_);go_wp2_with fail
       refine(hlog.out _ ((zx.loc b px sb lb pb av n (t++ [j])).below hNd.out (zo (N2 _ _))).lo).mono ?_;rintro e w2⟨v2,rfl,hrow2,hb2,hnew2⟩;have hb12:Below wr.heap.size wr w2:=zf (zo (N2 _ _)) hb2;have g22:w2.cell? ⟨K.sb,j*5+2,none⟩=some (.int .i64 (sd:Nat)):=(hb12.cell (jH g2)).trans g2;obtain⟨a2,m2,c2,rfl⟩:=hrow2.shape;go_wp2;refine hJ.out _ _ (λ_=>⟨g22,trivial⟩) ?_;clear hJ J;have had:=hadd.out S1 (ow1.cut wr) 3 (j:Int) sd n.loc.log (.slice a2 m2 c2) w2 ⟨_,_,(zk.loc B K _ _ _ t).cut hI1.out hb12⟩ hrow2.src (λa l c e=>Own.cut_new (by cases e;exact hnew2 _ rfl)) (by have:=hfew.2;have:=hG1.out.traceLe;omega) (by omega);replace hrow2:=G hrow2;replace hnew2:=G hnew2;refine zc rfl (λJ hJ=>?_);go_wp2_with fail
       refine had.mono ?_;rintro e w3⟨rfl,ow3,hs3,tv3,lp3,hI3⟩;obtain⟨os3,ol3,hsr3⟩:=hI3.srow;have g3:w3.cell? ⟨K.sb,j*5+2,none⟩=some (.int .i64 (sd:Nat)):=hsr3.cellL (jt hse.out (j:=2) (by decide));have f3:=hsr3.frozen;have l3:=hsr3.lt;obtain⟨hs4,hI4⟩:=hI3.setSeat (i:=j) (j:=2) (s':=⟨sg,sa,max sd n.loc.log.length,false,true⟩) (v:=.int .i64 (max sd n.loc.log.length:Nat)) hse.out (by decide) rfl;obtain⟨os4,ol4,hsr4⟩:=hI4.srow;have hse4:=Xv (s:=⟨sg,sa,max sd n.loc.log.length,false,true⟩) hse.out;have g4:=hsr4.cellL (jt hse4 (j:=3) (by decide));have f4:=hsr4.frozen;have l4:=hsr4.lt;obtain⟨hs5,hI5⟩:=hI4.setSeat (i:=j) (j:=3) (s':=⟨sg,sa,max sd n.loc.log.length,false,true⟩) (v:=.bool false) hse4 (by decide) rfl;go_wp2;refine hJ.out _ _ (λ_=>⟨g3,trivial⟩) ?_;clear hJ J;replace hI3:=G hI3;replace hI4:=G hI4;replace hI5:=G hI5;replace hsr3:=G hsr3;replace hsr4:=G hsr4;replace hse4:=G hse4
       (repeat (refine za (v:=?_) rfl rfl (λw' h=>?_) (λK k=>?_);rotate_left;obtain⟨f1,_⟩:=h;go_simp;(try with_reducible rfl);go_simp;refine k _ ?_;clear k K))
       refine zc rfl (λJ hJ=>?_);go_wp2;refine hJ.out _ _ (λhh=>absurd rfl hh) ?_;clear hJ J;refine ze ?_;go_wp2
       go_roundw
       case rel=>
        refine⟨j+1,ow3,by simp,by omega,hst.out.trans (zq.wrap hb12 (hs3.trans ((hs4.mono (Sub.child t 21)).trans (hs5.mono (Sub.child t 21))))),?_⟩;rw [hsc.out,Xu hsd.out (by simp) hn1.out];have:=hI5.out;rw [J9] at this;exact⟨tv3,lp3,this⟩
       case measure=>simp [intOf];omega
      |false=>
       go_wp2
       go_roundw
       case rel=>exact⟨j+1,ow1,by simp,by omega,hst.out,by rw [hsc.out,QB hsd.out rfl rfl];exact⟨_,_,hI1.out⟩⟩
       case measure=>simp [intOf];omega
    ·obtain rfl:N=j:=by omega
     have t2:decide ((N:Int)<(N:Int))=false:=by simp
     go_wp2;go_end0
     exact⟨rfl,ow1,hst,by rw [hend.out];exact hW⟩
theorem zbY(w:World):(binOp .eql 27 (.slice none 0 0) (.slice none 0 0)).run prog w=.ok (.bool true) w:=by kernel_rfl
theorem zdj(a:Addr)(n c:Nat)(w:World):(binOp .eql 27 (.slice (some a) n c) (.slice none 0 0)).run prog w=.ok (.bool false) w:=by kernel_rfl
theorem zbZ(v:Value)(l:List zb8)(w:World)(hv:Src w v 5 l.length (l.flatMap jr))(hb:l.length<=1073741824):Calls prog 27 #[v] w λe w'=>
 ∃v',e=.returned v'/\Row w' 36 5 v' l.length (l.flatMap jr)/\Below w.heap.size w w'/\(∀g,v'.ownBlock=some g->w.heap.size<=g):=by
 have hyes:=zbY w;have hno:=λa n c=>zdj a n c w
 have hv0:=hv
 rcases hv.2 with⟨rfl,h0⟩|⟨b,off,cap,rfl,hc,hr⟩
 ·obtain rfl:l=[]:=N9 h0
  go_enter func27,ntmps27
  go_wp2;go_ret
  exact⟨_,rfl,zX _ _ _,N2 _ _,by simp [Value.ownBlock]⟩
 ·clear hr hv
  replace hv0:=G hv0;replace hb:=G hb
  go_enter func27,ntmps27
  go_wp2_with (at_builtin
               obtain⟨v',w',hrun,hrow,hgr,hown⟩:=zI zkW (zdG w 36 5) (Src.below (Hid.out hv0) ((N2 _ _).alloc (N0 _) _)) (Zs l) (by have:=hb.out;omega) 27
               refine zu rfl _ _ _ rfl rfl rfl hrun ?_)
  go_ret
  refine⟨_,rfl,by simpa using hrow,((N2 _ _).alloc (N0 _) _).grown hgr (by simp) (λk hk=>by simp [Value.ownBlock] at hk;omega),λg hg=>?_⟩;have hg':v'.ownBlock=some g:=hg
  rcases hown with h1|h1<;>rw [hg'] at h1<;>simp [Value.ownBlock] at h1<;>omega
variable {B:Nat}{K:WK}{tv:Value}{lp:Nat->Option Nat}{S:zj}{t:List Nat}{ow:Own}
theorem QC(w:World)(h:zk B K tv lp S t ow w)(hn:S.trace.length<=1073741824):Calls prog 10 #[.pointer (some ⟨B,0,none⟩)] w λe w'=>
 ∃v',e=.returned v'/\Row w' 36 5 v' S.trace.length (S.trace.flatMap jr)/\Below w.heap.size w w'/\(∀g,v'.ownBlock=some g->w.heap.size<=g):=by
 have hi:=qL w h;have hc:=zbZ tv S.trace w h.trow.2.src hn;have e0:w.cell? ⟨B,6,none⟩=some tv:=h.blk.cell 6;replace hi:=G hi;replace hc:=G hc;clear h
 go_enter func10,ntmps10
 go_wp2_with fail
 refine hi.out.mono ?_;rintro e w1⟨rfl,hw1⟩;obtain rfl:=hw1.symm;go_wp2_with fail
 refine hc.out.mono ?_;rintro e w2⟨v',rfl,h1,h2,h3⟩;replace h3:=G h3;go_wp2;go_ret
 exact⟨_,rfl,h1,h2,h3.out⟩
def zj1(S:zj)(i:Nat):zj:=setSeat S i {jG S i with lent:=true}
theorem zr.lent {v:Int}{k L:Nat}{S:zj}(h:zr v k L S){i:Nat}(hi:i<S.nodes.length):zr v k L (zj1 S i):=h.setSeat hi _ ⟨(h.seats i _ (h.seat hi)).1,rfl,rfl⟩
theorem zhG(i:Nat)(hi:i<S.nodes.length)(hN:S.nodes.length<=16)(w:World)(h:zk B K tv lp S t ow w):∃b,K.nl[i]?=some b/\
 Calls prog 18 #[.pointer (some ⟨B,0,none⟩),.int .i64 i] w λe w'=>e=.returned (.pointer (some ⟨b,0,none⟩))/\zq t ow w ow w'/\zk B K tv lp (zj1 S i) t ow w':=by
 have hn:=qL w h;have hd:=qN i w h;rw [show(decide (0<=(i:Int))&& decide ((i:Int)<(S.nodes.length:Int)))=true by simp;omega] at hd;obtain⟨m,hm⟩:∃m,S.nodes[i]?=some m:=⟨_,N3 hi⟩;obtain⟨b,hnb, -⟩:=h.node (by omega) hm;refine⟨b,hnb,?_⟩;obtain⟨os0,ol0,hs0⟩:=h.srow
 have hse:S.seats[i]?=some (jG S i):=by
  unfold jG;rw [N3 (by rw [ol0];exact hi)];rfl
 have g4:=hs0.cellL (jt hse (j:=4) (by decide));have f4:=hs0.frozen;have l4:=hs0.lt;obtain⟨hst,hI1⟩:=h.setSeat (v:=.bool true) (s':={jG S i with lent:=true}) hse (j:=4) (by decide) rfl;have c0:=h.blk.cell;have c1:=hI1.blk.cell;have lB:=h.blk.lt;have hnc:=h.nodeCell hnb;have hnc1:=hI1.nodeCell hnb;have y0:(0:Int)<=(i:Int):=by omega
 have y1:(i:Int)<(S.nodes.length:Int):=by omega
 replace hn:=G hn;replace hd:=G hd;replace hse:=G hse;replace hI1:=G hI1;replace hm:=G hm;replace hnb:=G hnb;clear h
 go_enter func18,ntmps18
 go_wp2_with fail
 refine hn.out.mono ?_;rintro e w1⟨rfl,hw1⟩;obtain rfl:=hw1.symm;go_wp2_with fail
 refine hd.out.mono ?_;rintro e w1⟨rfl,hw1⟩;obtain rfl:=hw1.symm;go_wp2;go_ret
 exact⟨rfl,hst.mono (Sub.child t 21),hI1.out⟩
end
open Go Go.RowKit Go.Shelf Go.Extern.Stop Go.Stop Go.Extern
attribute [local go_sem] Oper.semAt_some zw zn
theorem v8:x8 prog 3 zfI:=xJ
def zfZ(i:Nat):Nat:=match i with
 |1=>49
 |2=>51
 |3=>53
 |4=>55
 |5=>57
 |6=>59
 |7=>61
 |8=>63
 |9=>65
 |_=>67
def xC(bx i:Nat):Value:=.func (.func (zfZ i)) #[] #[.pointer (some ⟨bx,0,none⟩)]
theorem ziV(bx:Nat):Yy bx=[(1,xC bx 1),(2,xC bx 2),(3,xC bx 3),(4,xC bx 4),(5,xC bx 5),(6,xC bx 6),(7,xC bx 7),(8,xC bx 8),(9,xC bx 9),(10,xC bx 10)]:=rfl
theorem zj2(bx:Nat){k:Int}(h:k<1∨10<k):zJ k (Yy bx)=none:=by
 rw [ziV];simp only [zJ];rw [if_neg (by omega),if_neg (by omega),if_neg (by omega),if_neg (by omega),if_neg (by omega),if_neg (by omega),if_neg (by omega),if_neg (by omega),if_neg (by omega),if_neg (by omega)]
theorem zf0(B:Nat)(w:World):Calls prog 33 #[.pointer (some ⟨B,0,none⟩)] w λe w'=>e=.returned (.map (some (w.heap.size+1)))/\Below w.heap.size w w'/\Blk w' w.heap.size #[.pointer (some ⟨B,0,none⟩)] 24/\zU w' (w.heap.size+1) zfI (Yy w.heap.size):=by
 have hmm:= @run_makeMap prog;obtain⟨W0,hW0⟩:∃W0,W0=w.alloc (.cells #[.pointer (some ⟨B,0,none⟩)] 24):=⟨_,rfl⟩;have hz:W0.heap.size=w.heap.size+1:=by rw [hW0];simp
 have hb0:Below w.heap.size w W0:=by rw [hW0];exact zg (N2 _ _) _
 have k0:Blk W0 w.heap.size #[.pointer (some ⟨B,0,none⟩)] 24:=by rw [hW0];exact Blk.new rfl
 have m0:=zU.made W0 zfI;obtain⟨o1,hu1,m1⟩:=m0.update v8 Tryz.underlying70 1 (xC w.heap.size 1);rw [jz] at hu1 m1;obtain⟨o2,hu2,m2⟩:=m1.update v8 Tryz.underlying70 2 (xC w.heap.size 2);rw [jz] at hu2 m2;obtain⟨o3,hu3,m3⟩:=m2.update v8 Tryz.underlying70 3 (xC w.heap.size 3);rw [jz] at hu3 m3;obtain⟨o4,hu4,m4⟩:=m3.update v8 Tryz.underlying70 4 (xC w.heap.size 4);rw [jz] at hu4 m4;obtain⟨o5,hu5,m5⟩:=m4.update v8 Tryz.underlying70 5 (xC w.heap.size 5);rw [jz] at hu5 m5;obtain⟨o6,hu6,m6⟩:=m5.update v8 Tryz.underlying70 6 (xC w.heap.size 6);rw [jz] at hu6 m6;obtain⟨o7,hu7,m7⟩:=m6.update v8 Tryz.underlying70 7 (xC w.heap.size 7);rw [jz] at hu7 m7;obtain⟨o8,hu8,m8⟩:=m7.update v8 Tryz.underlying70 8 (xC w.heap.size 8);rw [jz] at hu8 m8;obtain⟨o9,hu9,m9⟩:=m8.update v8 Tryz.underlying70 9 (xC w.heap.size 9);rw [jz] at hu9 m9;obtain⟨o10,hu10,m10⟩:=m9.update v8 Tryz.underlying70 10 (xC w.heap.size 10);rw [jz] at hu10 m10;rw [hz] at hu1 hu2 hu3 hu4 hu5 hu6 hu7 hu8 hu9 hu10 m10;clear m0 m1 m2 m3 m4 m5 m6 m7 m8 m9;unfold xC zfZ zfI at hu1 hu2 hu3 hu4 hu5 hu6 hu7 hu8 hu9 hu10;simp only at hu1 hu2 hu3 hu4 hu5 hu6 hu7 hu8 hu9 hu10;have hb1:Below w.heap.size w (W0.alloc o10):=zg hb0 _;have k1:=k0.alloc o10;subst hW0;replace m10:=G m10
 go_enter func33,ntmps33
 go_wp2;go_ret
 exact⟨rfl,hb1,k1,m10.out⟩
