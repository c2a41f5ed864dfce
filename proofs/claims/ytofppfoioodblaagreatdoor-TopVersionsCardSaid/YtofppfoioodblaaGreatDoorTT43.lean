/- PARTS OF THE PROOF. -/
import Derived.Test.YtofppfoioodblaaGreatDoorTT42
set_option maxRecDepth 8000
set_option maxHeartbeats 4000000
open Go.Proofs.Tryz
namespace Go.Proofs.YtofppfoioodblaaGreatDoor
section
open Go Go.RowKit Go.Shelf Go.Extern.Stop Go.Stop Go.Extern
attribute [local go_sem] Oper.semAt_some zv zm
theorem Qv(f:jW->Nat)(c:Nat):∀(l:List jW),(∀s∈l,f s<=c)->(l.map f).sum<=l.length*c
 | [],_=>by simp
 |x::l,h=>by
  have h1:=Qv f c l (λs hs=>h s (U7 _ hs));have h2:=h x (List.mem_cons_self ..);rw [List.map_cons,List.sum_cons,List.length_cons,Nat.add_mul];omega
theorem zu.traceLe {v:Int}{k L:Nat}{S:zf}(h:zu v k L S):S.trace.length<=k+12104128:=by
 have h1:=Qv (λs=>s.accepted+s.delivered) 756508 S.seats (λs hs=>by
  obtain⟨i,hi⟩:=List.mem_iff_getElem?.1 hs;have:=h.seats i s hi
  show s.accepted+s.delivered<=_
  omega)
 have h2:=h.seatsN;have h3:=h.n0;have h4:=h.trace;have h5:S.seats.length*756508<=16*756508:=Nat.mul_le_mul_right _ (by omega);omega
def JW(S:zf)(d:Bool)(j:Nat):zf:=(List.range j).foldl (λw i=>tellOne w d i) S
theorem Qw(S:zf)(d:Bool)(j:Nat):JW S d (j+1)=tellOne (JW S d j) d j:=by
 unfold JW;rw [List.range_succ,List.foldl_append];rfl
theorem Jc(S:zf)(d:Bool)(j:Nat):(JW S d j).nodes=S.nodes:=xX d _ S
theorem zu.told {v:Int}{k L:Nat}{S:zf}(h:zu v k L S)(d:Bool){j:Nat}(hj:j<=S.nodes.length):zu v k L (JW S d j):=
 zu.tells d _ S h (λi hi=>by have:=List.mem_range.1 hi;omega)
theorem Qx {S:zf}{d:Bool}{i:Nat}{s:jW}(h:jg S i=s)(h1:s.stale=false)(h2:s.lent=false):tellOne S d i=S:=by
 unfold tellOne;simp only [h,h1,h2];rfl
theorem Xo {S:zf}{i:Nat}{s:jW}{n:zp}(h:jg S i=s)(h1:(s.stale||s.lent)=true)(hn:zr S i=n):tellOne S false i={setSeat S i {s with accepted:=max s.accepted n.acc.length} with trace:=S.trace++(n.acc.drop s.accepted).map λm=>((1:Int),(i:Int),m)} :=by
 unfold tellOne;simp only [h,h1,hn];rfl
theorem Xp {S:zf}{i:Nat}{s:jW}{n:zp}(h:jg S i=s)(h1:(s.stale||s.lent)=true)(hn:zr S i=n):tellOne S true i={setSeat S i {s with delivered:=max s.delivered n.loc.log.length,stale:=false} with trace:=S.trace++(n.loc.log.drop s.delivered).map λm=>((3:Int),(i:Int),m)} :=by
 unfold tellOne;simp only [h,h1,hn];rfl
theorem JX(S:zf)(i:Nat)(s s':jW):setSeat (setSeat S i s) i s'=setSeat S i s':=by
 unfold setSeat;simp
theorem Xq {S:zf}{i:Nat}{s0 s:jW}(h:S.seats[i]?=some s0):(setSeat S i s).seats[i]?=some s:=by
 unfold setSeat;exact List.getElem?_set_self (N6.1 h).1
theorem zbZ(B:Nat)(K:WK)(S:zf){v:Int}{k0 L:Nat}(hG:zu v k0 L S)(hk:k0<=100000000)(t:List Nat)(ht:t≠ [])(ow:Own)(w:World)(h:zL B K S t ow w):
 Calls prog 32 #[.pointer (some ⟨B,0,none⟩)] w (xZ B K (vZ S) t ow w (.tuple #[])):=by
 obtain⟨N,hNA⟩:∃N,S.nodes.length=N:=⟨_,rfl⟩;have hN16:N<=16:=by have:=hG.n0;omega
 have hadd:=λ(S':zf) ow kind at' told l mv W hW h1 h2 h3 h4=>zjh B K S' t ht ow kind at' told l mv W hW h1 h2 h3 h4
 replace hadd:=hid hadd;obtain⟨tv0,lp0,hI0⟩:=h;have hB0:=hI0.blk;rw [hNA] at hB0;have e0:=hB0.cell;have hGA:=hG;obtain⟨SA,hSA⟩:∃SA,S=SA:=⟨_,rfl⟩;rw [hSA] at hGA hNA hI0;have hI0':=hI0;replace hI0:=hid hI0;replace hGA:=hid hGA
 go_enter func32,ntmps32
 go_wp2
 go_loopw [13] (λp13 wr=>∃(j:Nat)(ow1:Own),p13=.int .i64 (j:Nat)/\j<=N/\zq t ow w ow1 wr/\zL B K (JW SA false j) t ow1 wr) (λp13 _=>N - (intOf p13).toNat)
 case atStart=>exact⟨0,ow,rfl,by omega,zq.refl _ _ _,tv0,lp0,hI0'⟩
 case round=>
  clear e0 hI0' hG hB0;obtain⟨j,ow1,rfl,hj,hst,hW⟩:=hrel;have y0:(0:Int)<=(j:Int):=by omega
  have hwj:j<16->IntKind.i64.wrap ((j:Int)+1)=(j:Int)+1:=λ_=>by rw [N8];omega
  by_cases hjN:j<N
  ·skip
   have t2:decide ((j:Int)<(N:Int))=true:=by simpa using hjN
   have y1:(j:Int)<(N:Int):=by omega
   have hwj:=hwj (by omega);have hG1:=hGA.out.told false (j:=j) (by have:=hNA;omega);have hsc:=Qw SA false j;have hnn:=Jc SA false j;obtain⟨S1,hS1⟩:∃S1,JW SA false j=S1:=⟨_,rfl⟩;rw [hS1] at hG1 hW hsc hnn;have hl1:S1.nodes.length=N:=by rw [hnn];exact hNA
   obtain⟨tv1,lp1,hI1⟩:=hW;obtain⟨n,hn1⟩:∃n,zr S1 j=n:=⟨_,rfl⟩;have hnd:=hG1.node (i:=j) (by omega);rw [hn1] at hnd;obtain⟨b,hnb,px,sb,lb,pb,av,hNd⟩:=hI1.node (by omega) hnd.1;have hnc:=hI1.nodeCell hnb;have hfew:=hnd.2.few;have hsB:=hG1.seats j _ (hG1.seat (by omega));have hse:=hG1.seat (i:=j) (by omega);obtain⟨⟨sg,sa,sd,st,sl⟩,hsd⟩:∃s,jg S1 j=s:=⟨_,rfl⟩;rw [hsd] at hse hsB;simp only at hsB;have hB1:=hI1.blk;rw [hl1] at hB1;have e1:=hB1.cell;obtain⟨os,ol,hsr⟩:=hI1.srow;have g1:wr.cell? ⟨K.sb,j*5+1,none⟩=some (.int .i64 (sa:Nat)):=hsr.cellL (jw hse (j:=1) (by decide));have g2:wr.cell? ⟨K.sb,j*5+2,none⟩=some (.int .i64 (sd:Nat)):=hsr.cellL (jw hse (j:=2) (by decide));have g3:wr.cell? ⟨K.sb,j*5+3,none⟩=some (.bool st):=hsr.cellL (jw hse (j:=3) (by decide));have g4:wr.cell? ⟨K.sb,j*5+4,none⟩=some (.bool sl):=hsr.cellL (jw hse (j:=4) (by decide));have hacc:=λW hW=>JI (px:=px) (sb:=sb) (lb:=lb) (pb:=pb) (av:=av) (n:=n) (B:=b) (t:=t++ [j]) (ow:=ow1) W hW (by have:=hfew.1;omega)
   have hloc:=λW hW=>Yu (px:=px) (sb:=sb) (lb:=lb) (pb:=pb) (av:=av) (n:=n) (B:=b) W hW
   have hlog:=λW hW=>QT lb n.loc (t++ [j] ++ [2]) ow1 W hW (by have:=hfew.2;omega)
   replace hacc:=hid hacc;replace hloc:=hid hloc;replace hlog:=hid hlog;replace hnd:=hid hnd;replace hn1:=hid hn1;replace hnn:=hid hnn;replace hsd:=hid hsd;replace hse:=hid hse;replace hsc:=hid hsc;replace hS1:=hid hS1;replace hl1:=hid hl1;replace hnb:=hid hnb;replace hNd:=hid hNd;replace hG1:=hid hG1;replace hI1:=hid hI1;replace hst:=hid hst;replace hB1:=hid hB1;replace hsr:=hid hsr
   cases st with
   |true=>
    go_wp2_with fail
    refine zd [O 0,O 1,O 2,O 3,O 4,O 5,O 6,O 7,E 8,E 9,O 10,O 11,E 12] (some 12) (λw'=>w'.cell? ⟨K.sb,j*5+1,none⟩=some (.int .i64 (sa:Nat))/\True) (by kernel_rfl) (by kernel_rfl) ⟨g1,trivial⟩ ?_
    (repeat (refine za (v:=?_) rfl rfl (λw' h=>?_) (λK k=>?_);rotate_left;obtain⟨f1,_⟩:=h;go_simp;(try with_reducible rfl);go_simp;refine k _ ?_;clear k K))
    refine zc rfl (λJ hJ=>?_);go_wp2_with fail
    refine(hacc.out _ ((zx.loc b px sb lb pb av n (t++ [j])).below hNd.out (zo (N2 _ _)))).mono ?_;rintro e w2⟨v2,rfl,hrow2,hb2,hnew2⟩;have hb12:Below wr.heap.size wr w2:=zg (zo (N2 _ _)) hb2;have g2:w2.cell? ⟨K.sb,j*5+1,none⟩=some (.int .i64 (sa:Nat)):=(hb12.cell (jH g1)).trans g1;obtain⟨a2,m2,c2,rfl⟩:=hrow2.shape;go_wp2;refine hJ.out _ _ (λ_=>⟨g2,trivial⟩) ?_;clear hJ J;have had:=hadd.out S1 (ow1.cut wr) 1 (j:Int) sa n.acc (.slice a2 m2 c2) w2 ⟨_,_,(zk.loc B K _ _ _ t).cut hI1.out hb12⟩ hrow2.src (λa l c e=>Own.cut_new (by cases e;exact hnew2 _ rfl)) (by have:=hfew.1;have:=hG1.out.traceLe;omega) (by omega);replace hrow2:=hid hrow2;replace hnew2:=hid hnew2;refine zc rfl (λJ hJ=>?_);go_wp2_with fail
    refine had.mono ?_;rintro e w3⟨rfl,ow3,hs3,tv3,lp3,hI3⟩;obtain⟨os3,ol3,hsr3⟩:=hI3.srow;have g3:w3.cell? ⟨K.sb,j*5+1,none⟩=some (.int .i64 (sa:Nat)):=hsr3.cellL (jw hse.out (j:=1) (by decide));have f3:=hsr3.frozen;have l3:=hsr3.lt;obtain⟨hs4,hI4⟩:=hI3.setSeat (i:=j) (j:=1) (s':=⟨sg,max sa n.acc.length,sd,true,sl⟩) (v:=.int .i64 (max sa n.acc.length:Nat)) hse.out (by decide) rfl;go_wp2;refine hJ.out _ _ (λ_=>⟨g3,trivial⟩) ?_;clear hJ J;replace hI3:=hid hI3;replace hI4:=hid hI4;replace hsr3:=hid hsr3
    (repeat (refine za (v:=?_) rfl rfl (λw' h=>?_) (λK k=>?_);rotate_left;obtain⟨f1,_⟩:=h;go_simp;(try with_reducible rfl);go_simp;refine k _ ?_;clear k K))
    refine zc rfl (λJ hJ=>?_);go_wp2;refine hJ.out _ _ (λhh=>absurd rfl hh) ?_;clear hJ J;refine ze ?_;go_wp2
    go_roundw
    case rel=>
     refine⟨j+1,ow3,by simp,by omega,hst.out.trans (zq.wrap hb12 (hs3.trans (hs4.mono (Sub.child t 21)))),?_⟩;rw [hsc.out,Xo hsd.out (by simp) hn1.out];exact⟨tv3,lp3,hI4.out⟩
    case measure=>simp [intOf];omega
   |false=>
    cases sl with
    |true=>
     go_wp2_with fail
     refine zd [O 0,O 1,O 2,O 3,O 4,O 5,O 6,O 7,E 8,E 9,O 10,O 11,E 12] (some 12) (λw'=>w'.cell? ⟨K.sb,j*5+1,none⟩=some (.int .i64 (sa:Nat))/\True) (by kernel_rfl) (by kernel_rfl) ⟨g1,trivial⟩ ?_
     (repeat (refine za (v:=?_) rfl rfl (λw' h=>?_) (λK k=>?_);rotate_left;obtain⟨f1,_⟩:=h;go_simp;(try with_reducible rfl);go_simp;refine k _ ?_;clear k K))
     refine zc rfl (λJ hJ=>?_);go_wp2_with fail
     refine(hacc.out _ ((zx.loc b px sb lb pb av n (t++ [j])).below hNd.out (zo (N2 _ _)))).mono ?_;rintro e w2⟨v2,rfl,hrow2,hb2,hnew2⟩;have hb12:Below wr.heap.size wr w2:=zg (zo (N2 _ _)) hb2;have g2:w2.cell? ⟨K.sb,j*5+1,none⟩=some (.int .i64 (sa:Nat)):=(hb12.cell (jH g1)).trans g1;obtain⟨a2,m2,c2,rfl⟩:=hrow2.shape;go_wp2;refine hJ.out _ _ (λ_=>⟨g2,trivial⟩) ?_;clear hJ J;have had:=hadd.out S1 (ow1.cut wr) 1 (j:Int) sa n.acc (.slice a2 m2 c2) w2 ⟨_,_,(zk.loc B K _ _ _ t).cut hI1.out hb12⟩ hrow2.src (λa l c e=>Own.cut_new (by cases e;exact hnew2 _ rfl)) (by have:=hfew.1;have:=hG1.out.traceLe;omega) (by omega);replace hrow2:=hid hrow2;replace hnew2:=hid hnew2;refine zc rfl (λJ hJ=>?_);go_wp2_with fail
     refine had.mono ?_;rintro e w3⟨rfl,ow3,hs3,tv3,lp3,hI3⟩;obtain⟨os3,ol3,hsr3⟩:=hI3.srow;have g3:w3.cell? ⟨K.sb,j*5+1,none⟩=some (.int .i64 (sa:Nat)):=hsr3.cellL (jw hse.out (j:=1) (by decide));have f3:=hsr3.frozen;have l3:=hsr3.lt;obtain⟨hs4,hI4⟩:=hI3.setSeat (i:=j) (j:=1) (s':=⟨sg,max sa n.acc.length,sd,false,true⟩) (v:=.int .i64 (max sa n.acc.length:Nat)) hse.out (by decide) rfl;go_wp2;refine hJ.out _ _ (λ_=>⟨g3,trivial⟩) ?_;clear hJ J;replace hI3:=hid hI3;replace hI4:=hid hI4;replace hsr3:=hid hsr3
     (repeat (refine za (v:=?_) rfl rfl (λw' h=>?_) (λK k=>?_);rotate_left;obtain⟨f1,_⟩:=h;go_simp;(try with_reducible rfl);go_simp;refine k _ ?_;clear k K))
     refine zc rfl (λJ hJ=>?_);go_wp2;refine hJ.out _ _ (λhh=>absurd rfl hh) ?_;clear hJ J;refine ze ?_;go_wp2
     go_roundw
     case rel=>
      refine⟨j+1,ow3,by simp,by omega,hst.out.trans (zq.wrap hb12 (hs3.trans (hs4.mono (Sub.child t 21)))),?_⟩;rw [hsc.out,Xo hsd.out (by simp) hn1.out];exact⟨tv3,lp3,hI4.out⟩
     case measure=>simp [intOf];omega
    |false=>
     go_wp2
     go_roundw
     case rel=>exact⟨j+1,ow1,by simp,by omega,hst.out,by rw [hsc.out,Qx hsd.out rfl rfl];exact⟨_,_,hI1.out⟩⟩
     case measure=>simp [intOf];omega
  ·obtain rfl:N=j:=by omega
   have t2:decide ((N:Int)<(N:Int))=false:=by simp
   have hGB:=hGA.out.told false (j:=N) (by omega);have hNB:(JW SA false N).nodes.length=N:=by rw [Jc];exact hNA
   have hend:vZ SA=JW (JW SA false N) true N:=by unfold vZ JW;rw [hNA]
   obtain⟨SB,hSB⟩:∃SB,JW SA false N=SB:=⟨_,rfl⟩;rw [hSB] at hW hGB hNB hend;rw [← hSA] at hend;obtain⟨tv1,lp1,hI1⟩:=hW;have hB1:=hI1.blk;rw [hNB] at hB1;have e1:=hB1.cell;have hI1':=hI1;have hst0:=hst;replace hI1:=hid hI1;replace hGB:=hid hGB;replace hend:=hid hend;replace hNB:=hid hNB;replace hSB:=hid hSB;replace hst0:=hid hst0;go_wp2;clear hwj hj hjN hst
   go_loopw [52] (λp52 wr=>∃(j:Nat)(ow1:Own),p52=.int .i64 (j:Nat)/\j<=N/\zq t ow w ow1 wr/\zL B K (JW SB true j) t ow1 wr) (λp52 _=>N - (intOf p52).toNat)
   case atStart=>exact⟨0,ow1,rfl,by omega,hst0.out,tv1,lp1,hI1'⟩
   case round=>
    clear e1 hI1' hB1 hI1 hst0;obtain⟨j,ow1,rfl,hj,hst,hW⟩:=hrel;have y0:(0:Int)<=(j:Int):=by omega
    have hwj:j<16->IntKind.i64.wrap ((j:Int)+1)=(j:Int)+1:=λ_=>by rw [N8];omega
    by_cases hjN:j<N
    ·skip
     have t2:decide ((j:Int)<(N:Int))=true:=by simpa using hjN
     have y1:(j:Int)<(N:Int):=by omega
     have hwj:=hwj (by omega);have hG1:=hGB.out.told true (j:=j) (by have:=hNB.out;omega);have hsc:=Qw SB true j;have hnn:=Jc SB true j;obtain⟨S1,hS1⟩:∃S1,JW SB true j=S1:=⟨_,rfl⟩;rw [hS1] at hG1 hW hsc hnn;have hl1:S1.nodes.length=N:=by rw [hnn];exact hNB.out
     obtain⟨tv1,lp1,hI1⟩:=hW;obtain⟨n,hn1⟩:∃n,zr S1 j=n:=⟨_,rfl⟩;have hnd:=hG1.node (i:=j) (by omega);rw [hn1] at hnd;obtain⟨b,hnb,px,sb,lb,pb,av,hNd⟩:=hI1.node (by omega) hnd.1;have hnc:=hI1.nodeCell hnb;have hfew:=hnd.2.few;have hsB:=hG1.seats j _ (hG1.seat (by omega));have hse:=hG1.seat (i:=j) (by omega);obtain⟨⟨sg,sa,sd,st,sl⟩,hsd⟩:∃s,jg S1 j=s:=⟨_,rfl⟩;rw [hsd] at hse hsB;simp only at hsB;have hB1:=hI1.blk;rw [hl1] at hB1;have e1:=hB1.cell;obtain⟨os,ol,hsr⟩:=hI1.srow;have g1:wr.cell? ⟨K.sb,j*5+1,none⟩=some (.int .i64 (sa:Nat)):=hsr.cellL (jw hse (j:=1) (by decide));have g2:wr.cell? ⟨K.sb,j*5+2,none⟩=some (.int .i64 (sd:Nat)):=hsr.cellL (jw hse (j:=2) (by decide));have g3:wr.cell? ⟨K.sb,j*5+3,none⟩=some (.bool st):=hsr.cellL (jw hse (j:=3) (by decide));have g4:wr.cell? ⟨K.sb,j*5+4,none⟩=some (.bool sl):=hsr.cellL (jw hse (j:=4) (by decide));have hacc:=λW hW=>JI (px:=px) (sb:=sb) (lb:=lb) (pb:=pb) (av:=av) (n:=n) (B:=b) (t:=t++ [j]) (ow:=ow1) W hW (by have:=hfew.1;omega)
     have hloc:=λW hW=>Yu (px:=px) (sb:=sb) (lb:=lb) (pb:=pb) (av:=av) (n:=n) (B:=b) W hW
     have hlog:=λW hW=>QT lb n.loc (t++ [j] ++ [2]) ow1 W hW (by have:=hfew.2;omega)
     replace hacc:=hid hacc;replace hloc:=hid hloc;replace hlog:=hid hlog;replace hnd:=hid hnd;replace hn1:=hid hn1;replace hnn:=hid hnn;replace hsd:=hid hsd;replace hse:=hid hse;replace hsc:=hid hsc;replace hS1:=hid hS1;replace hl1:=hid hl1;replace hnb:=hid hnb;replace hNd:=hid hNd;replace hG1:=hid hG1;replace hI1:=hid hI1;replace hst:=hid hst;replace hB1:=hid hB1;replace hsr:=hid hsr
     cases st with
     |true=>
      go_wp2_with fail
      refine zd [O 0,O 1,O 2,O 3,O 4,O 5,O 6,O 7,E 8,E 9,E 10,O 11,O 12,E 13] (some 13) (λw'=>w'.cell? ⟨K.sb,j*5+2,none⟩=some (.int .i64 (sd:Nat))/\True) (by kernel_rfl) (by kernel_rfl) ⟨g2,trivial⟩ ?_
      (repeat (refine za (v:=?_) rfl rfl (λw' h=>?_) (λK k=>?_);rotate_left;obtain⟨f1,_⟩:=h;go_simp;(try with_reducible rfl);go_simp;refine k _ ?_;clear k K))
      refine zc rfl (λJ hJ=>?_);go_wp2_with fail
      refine(hloc.out _ ((zx.loc b px sb lb pb av n (t++ [j])).below hNd.out (zo (N2 _ _))).blk).mono ?_;rintro e w1⟨rfl,hw1⟩;obtain rfl:=hw1.symm;go_wp2;refine hJ.out _ _ (λ_=>⟨g2,trivial⟩) ?_;clear hJ J;refine zc rfl (λJ hJ=>?_);go_wp2_with fail
      refine(hlog.out _ ((zx.loc b px sb lb pb av n (t++ [j])).below hNd.out (zo (N2 _ _))).lo).mono ?_;rintro e w2⟨v2,rfl,hrow2,hb2,hnew2⟩;have hb12:Below wr.heap.size wr w2:=zg (zo (N2 _ _)) hb2;have g22:w2.cell? ⟨K.sb,j*5+2,none⟩=some (.int .i64 (sd:Nat)):=(hb12.cell (jH g2)).trans g2;obtain⟨a2,m2,c2,rfl⟩:=hrow2.shape;go_wp2;refine hJ.out _ _ (λ_=>⟨g22,trivial⟩) ?_;clear hJ J;have had:=hadd.out S1 (ow1.cut wr) 3 (j:Int) sd n.loc.log (.slice a2 m2 c2) w2 ⟨_,_,(zk.loc B K _ _ _ t).cut hI1.out hb12⟩ hrow2.src (λa l c e=>Own.cut_new (by cases e;exact hnew2 _ rfl)) (by have:=hfew.2;have:=hG1.out.traceLe;omega) (by omega);replace hrow2:=hid hrow2;replace hnew2:=hid hnew2;refine zc rfl (λJ hJ=>?_);go_wp2_with fail
      refine had.mono ?_;rintro e w3⟨rfl,ow3,hs3,tv3,lp3,hI3⟩;obtain⟨os3,ol3,hsr3⟩:=hI3.srow;have g3:w3.cell? ⟨K.sb,j*5+2,none⟩=some (.int .i64 (sd:Nat)):=hsr3.cellL (jw hse.out (j:=2) (by decide));have f3:=hsr3.frozen;have l3:=hsr3.lt;obtain⟨hs4,hI4⟩:=hI3.setSeat (i:=j) (j:=2) (s':=⟨sg,sa,max sd n.loc.log.length,true,sl⟩) (v:=.int .i64 (max sd n.loc.log.length:Nat)) hse.out (by decide) rfl;obtain⟨os4,ol4,hsr4⟩:=hI4.srow;have hse4:=Xq (s:=⟨sg,sa,max sd n.loc.log.length,true,sl⟩) hse.out;have g4:=hsr4.cellL (jw hse4 (j:=3) (by decide));have f4:=hsr4.frozen;have l4:=hsr4.lt;obtain⟨hs5,hI5⟩:=hI4.setSeat (i:=j) (j:=3) (s':=⟨sg,sa,max sd n.loc.log.length,false,sl⟩) (v:=.bool false) hse4 (by decide) rfl;go_wp2;refine hJ.out _ _ (λ_=>⟨g3,trivial⟩) ?_;clear hJ J;replace hI3:=hid hI3;replace hI4:=hid hI4;replace hI5:=hid hI5;replace hsr3:=hid hsr3;replace hsr4:=hid hsr4;replace hse4:=hid hse4
      (repeat (refine za (v:=?_) rfl rfl (λw' h=>?_) (λK k=>?_);rotate_left;obtain⟨f1,_⟩:=h;go_simp;(try with_reducible rfl);go_simp;refine k _ ?_;clear k K))
      refine zc rfl (λJ hJ=>?_);go_wp2;refine hJ.out _ _ (λhh=>absurd rfl hh) ?_;clear hJ J;refine ze ?_;go_wp2
      go_roundw
      case rel=>
       refine⟨j+1,ow3,by simp,by omega,hst.out.trans (zq.wrap hb12 (hs3.trans ((hs4.mono (Sub.child t 21)).trans (hs5.mono (Sub.child t 21))))),?_⟩;rw [hsc.out,Xp hsd.out (by simp) hn1.out];have:=hI5.out;rw [JX] at this;exact⟨tv3,lp3,this⟩
      case measure=>simp [intOf];omega
     |false=>
      cases sl with
      |true=>
       go_wp2_with fail
       refine zd [O 0,O 1,O 2,O 3,O 4,O 5,O 6,O 7,E 8,E 9,E 10,O 11,O 12,E 13] (some 13) (λw'=>w'.cell? ⟨K.sb,j*5+2,none⟩=some (.int .i64 (sd:Nat))/\True) (by kernel_rfl) (by kernel_rfl) ⟨g2,trivial⟩ ?_
       (repeat (refine za (v:=?_) rfl rfl (λw' h=>?_) (λK k=>?_);rotate_left;obtain⟨f1,_⟩:=h;go_simp;(try with_reducible rfl);go_simp;refine k _ ?_;clear k K))
       refine zc rfl (λJ hJ=>?_);go_wp2_with fail
       refine(hloc.out _ ((zx.loc b px sb lb pb av n (t++ [j])).below hNd.out (zo (N2 _ _))).blk).mono ?_;rintro e w1⟨rfl,hw1⟩;obtain rfl:=hw1.symm;go_wp2;refine hJ.out _ _ (λ_=>⟨g2,trivial⟩) ?_;clear hJ J;refine zc rfl (λJ hJ=>?_);go_wp2_with fail
       refine(hlog.out _ ((zx.loc b px sb lb pb av n (t++ [j])).below hNd.out (zo (N2 _ _))).lo).mono ?_;rintro e w2⟨v2,rfl,hrow2,hb2,hnew2⟩;have hb12:Below wr.heap.size wr w2:=zg (zo (N2 _ _)) hb2;have g22:w2.cell? ⟨K.sb,j*5+2,none⟩=some (.int .i64 (sd:Nat)):=(hb12.cell (jH g2)).trans g2;obtain⟨a2,m2,c2,rfl⟩:=hrow2.shape;go_wp2;refine hJ.out _ _ (λ_=>⟨g22,trivial⟩) ?_;clear hJ J;have had:=hadd.out S1 (ow1.cut wr) 3 (j:Int) sd n.loc.log (.slice a2 m2 c2) w2 ⟨_,_,(zk.loc B K _ _ _ t).cut hI1.out hb12⟩ hrow2.src (λa l c e=>Own.cut_new (by cases e;exact hnew2 _ rfl)) (by have:=hfew.2;have:=hG1.out.traceLe;omega) (by omega);replace hrow2:=hid hrow2;replace hnew2:=hid hnew2;refine zc rfl (λJ hJ=>?_);go_wp2_with fail
       refine had.mono ?_;rintro e w3⟨rfl,ow3,hs3,tv3,lp3,hI3⟩;obtain⟨os3,ol3,hsr3⟩:=hI3.srow;have g3:w3.cell? ⟨K.sb,j*5+2,none⟩=some (.int .i64 (sd:Nat)):=hsr3.cellL (jw hse.out (j:=2) (by decide));have f3:=hsr3.frozen;have l3:=hsr3.lt;obtain⟨hs4,hI4⟩:=hI3.setSeat (i:=j) (j:=2) (s':=⟨sg,sa,max sd n.loc.log.length,false,true⟩) (v:=.int .i64 (max sd n.loc.log.length:Nat)) hse.out (by decide) rfl;obtain⟨os4,ol4,hsr4⟩:=hI4.srow;have hse4:=Xq (s:=⟨sg,sa,max sd n.loc.log.length,false,true⟩) hse.out;have g4:=hsr4.cellL (jw hse4 (j:=3) (by decide));have f4:=hsr4.frozen;have l4:=hsr4.lt;obtain⟨hs5,hI5⟩:=hI4.setSeat (i:=j) (j:=3) (s':=⟨sg,sa,max sd n.loc.log.length,false,true⟩) (v:=.bool false) hse4 (by decide) rfl;go_wp2;refine hJ.out _ _ (λ_=>⟨g3,trivial⟩) ?_;clear hJ J;replace hI3:=hid hI3;replace hI4:=hid hI4;replace hI5:=hid hI5;replace hsr3:=hid hsr3;replace hsr4:=hid hsr4;replace hse4:=hid hse4
       (repeat (refine za (v:=?_) rfl rfl (λw' h=>?_) (λK k=>?_);rotate_left;obtain⟨f1,_⟩:=h;go_simp;(try with_reducible rfl);go_simp;refine k _ ?_;clear k K))
       refine zc rfl (λJ hJ=>?_);go_wp2;refine hJ.out _ _ (λhh=>absurd rfl hh) ?_;clear hJ J;refine ze ?_;go_wp2
       go_roundw
       case rel=>
        refine⟨j+1,ow3,by simp,by omega,hst.out.trans (zq.wrap hb12 (hs3.trans ((hs4.mono (Sub.child t 21)).trans (hs5.mono (Sub.child t 21))))),?_⟩;rw [hsc.out,Xp hsd.out (by simp) hn1.out];have:=hI5.out;rw [JX] at this;exact⟨tv3,lp3,this⟩
       case measure=>simp [intOf];omega
      |false=>
       go_wp2
       go_roundw
       case rel=>exact⟨j+1,ow1,by simp,by omega,hst.out,by rw [hsc.out,Qx hsd.out rfl rfl];exact⟨_,_,hI1.out⟩⟩
       case measure=>simp [intOf];omega
    ·obtain rfl:N=j:=by omega
     have t2:decide ((N:Int)<(N:Int))=false:=by simp
     go_wp2;go_end0
     exact⟨rfl,ow1,hst,by rw [hend.out];exact hW⟩
variable {B:Nat}{K:WK}{tv:Value}{lp:Nat->Option Nat}{S:zf}{t:List Nat}{ow:Own}
def zdr(S:zf)(i:Nat):zf:=setSeat S i {jg S i with lent:=true}
theorem zu.lent {v:Int}{k L:Nat}{S:zf}(h:zu v k L S){i:Nat}(hi:i<S.nodes.length):zu v k L (zdr S i):=h.setSeat hi _ ⟨(h.seats i _ (h.seat hi)).1,rfl,rfl⟩
theorem zhK(i:Nat)(hi:i<S.nodes.length)(hN:S.nodes.length<=16)(w:World)(h:zk B K tv lp S t ow w):∃b,K.nl[i]?=some b/\
 Calls prog 16 #[.pointer (some ⟨B,0,none⟩),.int .i64 i] w λe w'=>e=.returned (.pointer (some ⟨b,0,none⟩))/\zq t ow w ow w'/\zk B K tv lp (zdr S i) t ow w':=by
 have hn:=Vj w h;have hd:=Xl i w h;rw [show(decide (0<=(i:Int))&& decide ((i:Int)<(S.nodes.length:Int)))=true by simp;omega] at hd;obtain⟨m,hm⟩:∃m,S.nodes[i]?=some m:=⟨_,N3 hi⟩;obtain⟨b,hnb, -⟩:=h.node (by omega) hm;refine⟨b,hnb,?_⟩;obtain⟨os0,ol0,hs0⟩:=h.srow
 have hse:S.seats[i]?=some (jg S i):=by
  unfold jg;rw [N3 (by rw [ol0];exact hi)];rfl
 have g4:=hs0.cellL (jw hse (j:=4) (by decide));have f4:=hs0.frozen;have l4:=hs0.lt;obtain⟨hst,hI1⟩:=h.setSeat (v:=.bool true) (s':={jg S i with lent:=true}) hse (j:=4) (by decide) rfl;have c0:=h.blk.cell;have c1:=hI1.blk.cell;have lB:=h.blk.lt;have hnc:=h.nodeCell hnb;have hnc1:=hI1.nodeCell hnb;have y0:(0:Int)<=(i:Int):=by omega
 have y1:(i:Int)<(S.nodes.length:Int):=by omega
 replace hn:=hid hn;replace hd:=hid hd;replace hse:=hid hse;replace hI1:=hid hI1;replace hm:=hid hm;replace hnb:=hid hnb;clear h
 go_enter func16,ntmps16
 go_wp2_with fail
 refine hn.out.mono ?_;rintro e w1⟨rfl,hw1⟩;obtain rfl:=hw1.symm;go_wp2_with fail
 refine hd.out.mono ?_;rintro e w1⟨rfl,hw1⟩;obtain rfl:=hw1.symm;go_wp2;go_ret
 exact⟨rfl,hst.mono (Sub.child t 21),hI1.out⟩
end
section
open Go Go.RowKit Go.Shelf Go.Extern.Stop Go.Stop Go.Extern
attribute [local go_sem] Oper.semAt_some zv zm
theorem xY:x4 prog 3 zi9:=xN
def zds(i:Nat):Nat:=match i with
 |1=>45
 |2=>47
 |3=>49
 |4=>51
 |5=>53
 |6=>55
 |7=>57
 |8=>59
 |9=>61
 |_=>63
def YA(bx i:Nat):Value:=.func (.func (zds i)) #[] #[.pointer (some ⟨bx,0,none⟩)]
theorem zfT(B:Nat)(w:World):Calls prog 25 #[.pointer (some ⟨B,0,none⟩)] w λe w'=>e=.returned (.map (some (w.heap.size+1)))/\Below w.heap.size w w'/\Blk w' w.heap.size #[.pointer (some ⟨B,0,none⟩)] 24/\jc w' (w.heap.size+1) zi9 (zdb w.heap.size):=by
 have hmm:= @run_makeMap prog;obtain⟨W0,hW0⟩:∃W0,W0=w.alloc (.cells #[.pointer (some ⟨B,0,none⟩)] 24):=⟨_,rfl⟩;have hz:W0.heap.size=w.heap.size+1:=by rw [hW0];simp
 have hb0:Below w.heap.size w W0:=by rw [hW0];exact zi (N2 _ _) _
 have k0:Blk W0 w.heap.size #[.pointer (some ⟨B,0,none⟩)] 24:=by rw [hW0];exact Blk.new rfl
 have m0:=jc.made W0 zi9;obtain⟨o1,hu1,m1⟩:=m0.update xY Tryz.underlying63 1 (YA w.heap.size 1);rw [jA] at hu1 m1;obtain⟨o2,hu2,m2⟩:=m1.update xY Tryz.underlying63 2 (YA w.heap.size 2);rw [jA] at hu2 m2;obtain⟨o3,hu3,m3⟩:=m2.update xY Tryz.underlying63 3 (YA w.heap.size 3);rw [jA] at hu3 m3;obtain⟨o4,hu4,m4⟩:=m3.update xY Tryz.underlying63 4 (YA w.heap.size 4);rw [jA] at hu4 m4;obtain⟨o5,hu5,m5⟩:=m4.update xY Tryz.underlying63 5 (YA w.heap.size 5);rw [jA] at hu5 m5;obtain⟨o6,hu6,m6⟩:=m5.update xY Tryz.underlying63 6 (YA w.heap.size 6);rw [jA] at hu6 m6;obtain⟨o7,hu7,m7⟩:=m6.update xY Tryz.underlying63 7 (YA w.heap.size 7);rw [jA] at hu7 m7;obtain⟨o8,hu8,m8⟩:=m7.update xY Tryz.underlying63 8 (YA w.heap.size 8);rw [jA] at hu8 m8;obtain⟨o9,hu9,m9⟩:=m8.update xY Tryz.underlying63 9 (YA w.heap.size 9);rw [jA] at hu9 m9;obtain⟨o10,hu10,m10⟩:=m9.update xY Tryz.underlying63 10 (YA w.heap.size 10);rw [jA] at hu10 m10;rw [hz] at hu1 hu2 hu3 hu4 hu5 hu6 hu7 hu8 hu9 hu10 m10;clear m0 m1 m2 m3 m4 m5 m6 m7 m8 m9;unfold YA zds zi9 at hu1 hu2 hu3 hu4 hu5 hu6 hu7 hu8 hu9 hu10;simp only at hu1 hu2 hu3 hu4 hu5 hu6 hu7 hu8 hu9 hu10;have hb1:Below w.heap.size w (W0.alloc o10):=zi hb0 _;have k1:=k0.alloc o10;subst hW0;replace m10:=hid m10
 go_enter func25,ntmps25
 go_wp2;go_ret
 exact⟨rfl,hb1,k1,m10.out⟩
def opV(o:OpD):Value:=.agg #[.int .i64 o.kind,.int .i64 o.node,.int .i64 o.a,.int .i64 o.b,.int .u32 (o.mask:Nat),.string (bs o.s)]
structure zkX(o:OpD):Prop where
 len:o.s.length<=300
 mask:o.mask<4294967296
 b:o.b<9223372036854775808
theorem zu.eraLen {v:Int}{k L:Nat}{S:zf}(h:zu v k L S){i:Nat}(hi:i<S.nodes.length):(zr S i).loc.fold.eras.length<=536870912:=by
 have h1:=(h.node hi).2.ok.bounds;have:=h1.2.2.2.fold.eras;omega
variable {B:Nat}{K:WK}{S:zf}{v:Int}{k0 L:Nat}{t:List Nat}{ow:Own}{a:Addr}{w:World}
theorem zlk(hG:zu v k0 L S)(hL:L<=3000000000)(ht:t≠ [])(o:OpD)(h:zL B K S t ow w)(he:jE w a)(hge:ow 2=[]):Calls prog 49 #[opV o,.pointer (some ⟨K.bx,0,none⟩)] w (xZ B K (xw S o.a).1 t ow w (.int .i64 (xw S o.a).2)):=by
 have hCC:=λow W hW h1 h2=>zhJ B K S hG hL t ht ow a o.a W hW h1 h2
 have hel:=he.lt;obtain⟨knd,nod,A,bit,msk,str⟩:=o;unfold opV
 (try simp only at hCC)
 have hb1:Below w.heap.size w (w.alloc (.cells #[.int .i64 knd,.int .i64 nod,.int .i64 A,.int .i64 bit,.int .u32 (msk:Nat),.string (bs str)] 37)):=zi (N2 _ _) _;have hW1:=(zL.loc B K S t).cut h hb1;have kO:Blk (w.alloc (.cells #[.int .i64 knd,.int .i64 nod,.int .i64 A,.int .i64 bit,.int .u32 (msk:Nat),.string (bs str)] 37)) w.heap.size #[.int .i64 knd,.int .i64 nod,.int .i64 A,.int .i64 bit,.int .u32 (msk:Nat),.string (bs str)] 37:=Blk.new rfl;obtain⟨tv,lp,hI1⟩:=hW1;have e0:=hI1.does.2.2.2.cell;have e1:=kO.cell;have hc:=hCC _ _ ⟨tv,lp,hI1⟩ (he.below hb1 hel) (by rw [Own.cut_old hel];exact hge);replace hc:=hid hc;replace hI1:=hid hI1;clear hCC h
 go_enter func49,ntmps49
 go_wp2_with fail
 refine hc.out.mono ?_;rintro e w2⟨rfl,ow2,hs2,hW2⟩;go_wp2;go_ret
 exact⟨rfl,ow2,zq.wrap hb1 hs2,hW2⟩
theorem zll(hG:zu v k0 L S)(hL:L<=3000000000)(ht:t≠ [])(o:OpD)(i:Nat)(hn:o.node=i)(hi:i<S.nodes.length)(h:zL B K S t ow w):Calls prog 47 #[opV o,.pointer (some ⟨K.bx,0,none⟩)] w (xZ B K (yk S i).1 t ow w (.int .i64 (yk S i).2)):=by
 have hCC:=λow W hW=>zbY B K S hG hL t ht ow i hi (hG.eraLen hi) W hW
 obtain⟨knd,nod,A,bit,msk,str⟩:=o;unfold opV
 (try simp only at hCC)
 have hb1:Below w.heap.size w (w.alloc (.cells #[.int .i64 knd,.int .i64 nod,.int .i64 A,.int .i64 bit,.int .u32 (msk:Nat),.string (bs str)] 37)):=zi (N2 _ _) _;have hW1:=(zL.loc B K S t).cut h hb1;have kO:Blk (w.alloc (.cells #[.int .i64 knd,.int .i64 nod,.int .i64 A,.int .i64 bit,.int .u32 (msk:Nat),.string (bs str)] 37)) w.heap.size #[.int .i64 knd,.int .i64 nod,.int .i64 A,.int .i64 bit,.int .u32 (msk:Nat),.string (bs str)] 37:=Blk.new rfl;obtain⟨tv,lp,hI1⟩:=hW1;have e0:=hI1.does.2.2.2.cell;have e1:=kO.cell;have hc:=hCC _ _ ⟨tv,lp,hI1⟩;replace hc:=hid hc;replace hI1:=hid hI1;clear hCC h;subst hn
 go_enter func47,ntmps47
 go_wp2_with fail
 refine hc.out.mono ?_;rintro e w2⟨rfl,ow2,hs2,hW2⟩;go_wp2;go_ret
 exact⟨rfl,ow2,zq.wrap hb1 hs2,hW2⟩
end
open Go Go.RowKit Go.Shelf Go.Extern.Stop Go.Stop Go.Extern
attribute [local go_sem] Oper.semAt_some zv zm
variable {B:Nat}{K:WK}{S:zf}{v:Int}{k0 L:Nat}{t:List Nat}{ow:Own}{a:Addr}{w:World}
theorem zkY(hG:zu v k0 L S)(o:OpD)(i:Nat)(hn:o.node=i)(hi:i<S.nodes.length)(h:zL B K S t ow w):Calls prog 63 #[opV o,.pointer (some ⟨K.bx,0,none⟩)] w (xZ B K (setNode S i (ZY (zr S i) o.a).1) t ow w (.int .i64 (ZY (zr S i) o.a).2)):=by
 obtain⟨knd,nod,A,bit,msk,str⟩:=o;simp only at hn;subst hn;unfold opV;have hi16:i<16:=by have:=hG.n0;omega
 have y0:(0:Int)<=(i:Int):=by omega
 have y1:(i:Int)<(S.nodes.length:Int):=by omega
 have hb1:Below w.heap.size w (w.alloc (.cells #[.int .i64 knd,.int .i64 (i:Nat),.int .i64 A,.int .i64 bit,.int .u32 (msk:Nat),.string (bs str)] 37)).drew:=zo (zi (N2 _ _) _);have hW1:=(zL.loc B K S t).cut h hb1;have kO:Blk (w.alloc (.cells #[.int .i64 knd,.int .i64 (i:Nat),.int .i64 A,.int .i64 bit,.int .u32 (msk:Nat),.string (bs str)] 37)) w.heap.size #[.int .i64 knd,.int .i64 (i:Nat),.int .i64 A,.int .i64 bit,.int .u32 (msk:Nat),.string (bs str)] 37:=Blk.new rfl;obtain⟨tv,lp,hI1⟩:=hW1;have hom:(ow.cut w) w.heap.size=[]:=Own.cut_new (N0 _);obtain⟨b,hnb,px,sb,lb,pb,av,hN⟩:=hI1.node hi16 (hG.node hi).1;have hnc:=hI1.nodeCell hnb;have eX:=hI1.does.2.2.2.cell 0;have cB:(w.alloc (.cells #[.int .i64 knd,.int .i64 (i:Nat),.int .i64 A,.int .i64 bit,.int .u32 (msk:Nat),.string (bs str)] 37)).drew.cell? ⟨B,0,none⟩=some (.slice (some ⟨K.nb,0,none⟩) S.nodes.length K.nc):=hI1.blk.cell 0;have hc:=zhn b _ _ _ A _ hN (hG.eraLen hi);replace hc:=hid hc;replace hI1:=hid hI1;replace hN:=hid hN;replace hnb:=hid hnb
 go_enter func63,ntmps63
 go_wp2_with fail
 refine ZS [O 0,O 1,O 2,O 3,O 4,O 5,O 6,O 7,O 8,O 9,E 10,O 11] (some 10) (λw'=>w'.cell? ⟨K.bx,0,none⟩=some (.pointer (some ⟨B,0,none⟩))/\w'.cell? ⟨B,0,none⟩=some (.slice (some ⟨K.nb,0,none⟩) S.nodes.length K.nc)/\w'.cell? ⟨K.nb,i,none⟩=some (.pointer (some ⟨b,0,none⟩))/\Blk w' w.heap.size #[.int .i64 knd,.int .i64 (i:Nat),.int .i64 A,.int .i64 bit,.int .u32 (msk:Nat),.string (bs str)] 37/\True) (by kernel_rfl) (by kernel_rfl) ⟨eX,cB,hnc,kO,trivial⟩ ?_
 (repeat (refine zX (v:=?_) rfl rfl (λw' h=>?_) (λK k=>?_);rotate_left;obtain⟨f1,f2,f3,f4,_⟩:=h;have e4:=f4.cell;go_simp;(try with_reducible rfl);go_simp;refine k _ ?_;clear k K))
 refine qK rfl (λJ hJ=>?_);go_wp2_with fail
 refine hc.out.mono ?_;rintro e w2⟨rfl,ow2,hs2,hN2⟩;go_wp2;refine hJ.out _ _ ?_;clear hJ J
 (repeat (refine zX (v:=?_) rfl rfl (λw' h=>?_) (λK k=>?_);rotate_left;(focus (clear h;go_simp;(try with_reducible rfl)));(go_simp;refine k _ ?_;clear k K)))
 refine yh ?_;go_wp2;go_ret
 exact⟨rfl,ow2,zq.wrap hb1 (hs2.mono (Sub.child t i)),tv,lp,hI1.out.setNode hi16 hnb.out hs2 hN2⟩
