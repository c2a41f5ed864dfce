/- PARTS OF THE PROOF. -/
import Derived.Test.YtofppfoioodblaaGreatDoorTC32
set_option maxRecDepth 8000
set_option maxHeartbeats 4000000
open Go.Proofs.Tryz
namespace Go.Proofs.YtofppfoioodblaaGreatDoor
section
open Go Go.RowKit Go.Shelf Go.Extern.Stop Go.Stop Go.Extern
attribute [local go_sem] Oper.semAt_some zB zp
theorem zas(f:jN->Nat)(c:Nat):∀(l:List jN),(∀s∈l,f s<=c)->(l.map f).sum<=l.length*c
 | [],_=>by simp
 |x::l,h=>by
  have h1:=zas f c l (λs hs=>h s (U7 _ hs));have h2:=h x (List.mem_cons_self ..);rw [List.map_cons,List.sum_cons,List.length_cons,Nat.add_mul];omega
theorem zu.traceLe {v:Int}{k L:Nat}{S:zf}(h:zu v k L S):S.trace.length<=k+12104128:=by
 have h1:=zas (λs=>s.accepted+s.delivered) 756508 S.seats (λs hs=>by
  obtain⟨i,hi⟩:=List.mem_iff_getElem?.1 hs;have:=h.seats i s hi
  show s.accepted+s.delivered<=_
  omega)
 have h2:=h.seatsN;have h3:=h.n0;have h4:=h.trace;have h5:S.seats.length*756508<=16*756508:=Nat.mul_le_mul_right _ (by omega);omega
def YK(S:zf)(d:Bool)(j:Nat):zf:=(List.range j).foldl (λw i=>tellOne w d i) S
theorem zat(S:zf)(d:Bool)(j:Nat):YK S d (j+1)=tellOne (YK S d j) d j:=by
 unfold YK;rw [List.range_succ,List.foldl_append];rfl
theorem J0(S:zf)(d:Bool)(j:Nat):(YK S d j).nodes=S.nodes:=qp d _ S
theorem zu.told {v:Int}{k L:Nat}{S:zf}(h:zu v k L S)(d:Bool){j:Nat}(hj:j<=S.nodes.length):zu v k L (YK S d j):=
 zu.tells d _ S h (λi hi=>by have:=List.mem_range.1 hi;omega)
theorem zau {S:zf}{d:Bool}{i:Nat}{s:jN}(h:jo S i=s)(h1:s.stale=false)(h2:s.lent=false):tellOne S d i=S:=by
 unfold tellOne;simp only [h,h1,h2];rfl
theorem Qh {S:zf}{i:Nat}{s:jN}{n:zr}(h:jo S i=s)(h1:(s.stale||s.lent)=true)(hn:zo S i=n):tellOne S false i={setSeat S i {s with accepted:=max s.accepted n.acc.length} with trace:=S.trace++(n.acc.drop s.accepted).map λm=>((1:Int),(i:Int),m)} :=by
 unfold tellOne;simp only [h,h1,hn];rfl
theorem Qi {S:zf}{i:Nat}{s:jN}{n:zr}(h:jo S i=s)(h1:(s.stale||s.lent)=true)(hn:zo S i=n):tellOne S true i={setSeat S i {s with delivered:=max s.delivered n.loc.log.length,stale:=false} with trace:=S.trace++(n.loc.log.drop s.delivered).map λm=>((3:Int),(i:Int),m)} :=by
 unfold tellOne;simp only [h,h1,hn];rfl
theorem YL(S:zf)(i:Nat)(s s':jN):setSeat (setSeat S i s) i s'=setSeat S i s':=by
 unfold setSeat;simp
theorem Qj {S:zf}{i:Nat}{s0 s:jN}(h:S.seats[i]?=some s0):(setSeat S i s).seats[i]?=some s:=by
 unfold setSeat;exact List.getElem?_set_self (N6.1 h).1
theorem zcZ(B:Nat)(K:WK)(S:zf){v:Int}{k0 L:Nat}(hG:zu v k0 L S)(hk:k0<=100000000)(t:List Nat)(ht:t≠ [])(ow:Own)(w:World)(h:zI B K S t ow w):
 Calls prog 32 #[.pointer (some ⟨B,0,none⟩)] w (xK B K (vq S) t ow w (.tuple #[])):=by
 obtain⟨N,bj⟩:∃N,S.nodes.length=N:=⟨_,rfl⟩;have b8:N<=16:=by have:=hG.n0;omega
 have ay:=λ(S':zf) ow kind at' told l mv W hW h1 h2 h3 h4=>zkK B K S' t ht ow kind at' told l mv W hW h1 h2 h3 h4
 replace ay:=hid ay;obtain⟨b7,b9,bn⟩:=h;have bt:=bn.blk;rw [bj] at bt;have e0:=bt.cell;have bo:=hG;obtain⟨SA,b3⟩:∃SA,S=SA:=⟨_,rfl⟩;rw [b3] at bo bj bn;have bl:=bn;replace bn:=hid bn;replace bo:=hid bo
 go_enter func32,ntmps32
 go_wp2
 go_loopw [13] (λp13 wr=>∃(j:Nat)(al:Own),p13=.int .i64 (j:Nat)/\j<=N/\zt t ow w al wr/\zI B K (YK SA false j) t al wr) (λp13 _=>N - (intOf p13).toNat)
 case atStart=>exact⟨0,ow,rfl,by omega,zt.refl _ _ _,b7,b9,bl⟩
 case round=>
  clear e0 bl hG bt;obtain⟨j,al,rfl,hj,ar,hW⟩:=hrel;have y0:(0:Int)<=(j:Int):=by omega
  have bk:j<16->IntKind.i64.wrap ((j:Int)+1)=(j:Int)+1:=λ_=>by rw [N8];omega
  by_cases hjN:j<N
  ·skip
   have t2:decide ((j:Int)<(N:Int))=true:=by simpa using hjN
   have y1:(j:Int)<(N:Int):=by omega
   have bk:=bk (by omega);have ak:=bo.out.told false (j:=j) (by have:=bj;omega);have aw:=zat SA false j;have a6:=J0 SA false j;obtain⟨S1,bd⟩:∃S1,YK SA false j=S1:=⟨_,rfl⟩;rw [bd] at ak hW aw a6;have bh:S1.nodes.length=N:=by rw [a6];exact bj
   obtain⟨b1,br,ag⟩:=hW;obtain⟨n,a1⟩:∃n,zo S1 j=n:=⟨_,rfl⟩;have a3:=ak.node (i:=j) (by omega);rw [a1] at a3;obtain⟨b,be,px,sb,lb,pb,av,a4⟩:=ag.node (by omega) a3.1;have b5:=ag.nodeCell be;have ai:=a3.2.few;have bp:=ak.seats j _ (ak.seat (by omega));have af:=ak.seat (i:=j) (by omega);obtain⟨⟨sg,sa,sd,st,sl⟩,az⟩:∃s,jo S1 j=s:=⟨_,rfl⟩;rw [az] at af bp;simp only at bp;have au:=ag.blk;rw [bh] at au;have e1:=au.cell;obtain⟨os,ol,ax⟩:=ag.srow;have g1:wr.cell? ⟨K.sb,j*5+1,none⟩=some (.int .i64 (sa:Nat)):=ax.cellL (jD af (j:=1) (by decide));have g2:wr.cell? ⟨K.sb,j*5+2,none⟩=some (.int .i64 (sd:Nat)):=ax.cellL (jD af (j:=2) (by decide));have g3:wr.cell? ⟨K.sb,j*5+3,none⟩=some (.bool st):=ax.cellL (jD af (j:=3) (by decide));have g4:wr.cell? ⟨K.sb,j*5+4,none⟩=some (.bool sl):=ax.cellL (jD af (j:=4) (by decide));have ap:=λW hW=>Zn (px:=px) (sb:=sb) (lb:=lb) (pb:=pb) (av:=av) (n:=n) (B:=b) (t:=t++ [j]) (ow:=al) W hW (by have:=ai.1;omega)
   have aq:=λW hW=>Y7 (px:=px) (sb:=sb) (lb:=lb) (pb:=pb) (av:=av) (n:=n) (B:=b) W hW
   have ao:=λW hW=>zaE lb n.loc (t++ [j] ++ [2]) al W hW (by have:=ai.2;omega)
   replace ap:=hid ap;replace aq:=hid aq;replace ao:=hid ao;replace a3:=hid a3;replace a1:=hid a1;replace a6:=hid a6;replace az:=hid az;replace af:=hid af;replace aw:=hid aw;replace bd:=hid bd;replace bh:=hid bh;replace be:=hid be;replace a4:=hid a4;replace ak:=hid ak;replace ag:=hid ag;replace ar:=hid ar;replace au:=hid au;replace ax:=hid ax
   cases st with
   |true=>
    go_wp2_with fail
    refine zd [O 0,O 1,O 2,O 3,O 4,O 5,O 6,O 7,E 8,E 9,O 10,O 11,E 12] (some 12) (λw'=>w'.cell? ⟨K.sb,j*5+1,none⟩=some (.int .i64 (sa:Nat))/\True) ⟨g1,trivial⟩ ?_
    refine Wl ?_
    refine zc rfl (λJ hJ=>?_);go_wp2_with fail
    refine(ap.out _ ((zy.loc b px sb lb pb av n (t++ [j])).below a4.out (zq (N2 _ _)))).mono ?_;rintro e w2⟨v2,rfl,aa,a7,ac⟩;have ae:Below wr.heap.size wr w2:=zh (zq (N2 _ _)) a7;have g2:w2.cell? ⟨K.sb,j*5+1,none⟩=some (.int .i64 (sa:Nat)):=(ae.cell (jO g1)).trans g1;obtain⟨a2,m2,c2,rfl⟩:=aa.shape;go_wp2;refine hJ.out _ _ (λ_=>⟨g2,trivial⟩) ?_;clear hJ J;have ba:=ay.out S1 (al.cut wr) 1 (j:Int) sa n.acc (.slice a2 m2 c2) w2 ⟨_,_,(zl.loc B K _ _ _ t).cut ag.out ae⟩ aa.src (λa l c e=>Own.cut_new (by cases e;exact ac _ rfl)) (by have:=ai.1;have:=ak.out.traceLe;omega) (by omega);replace aa:=hid aa;replace ac:=hid ac;refine zc rfl (λJ hJ=>?_);go_wp2_with fail
    refine ba.mono ?_;rintro e w3⟨rfl,bg,a9,bb,bf,am⟩;obtain⟨bu,bw,ad⟩:=am.srow;have g3:w3.cell? ⟨K.sb,j*5+1,none⟩=some (.int .i64 (sa:Nat)):=ad.cellL (jD af.out (j:=1) (by decide));have f3:=ad.frozen;have l3:=ad.lt;obtain⟨a8,an⟩:=am.setSeat (i:=j) (j:=1) (s':=⟨sg,max sa n.acc.length,sd,true,sl⟩) (v:=.int .i64 (max sa n.acc.length:Nat)) af.out (by decide) rfl;go_wp2;refine hJ.out _ _ (λ_=>⟨g3,trivial⟩) ?_;clear hJ J;replace am:=hid am;replace an:=hid an;replace ad:=hid ad
    refine Wl ?_
    refine zc rfl (λJ hJ=>?_);go_wp2;refine hJ.out _ _ (λhh=>absurd rfl hh) ?_;clear hJ J;refine ze ?_;go_wp2
    go_roundw
    case rel=>
     refine⟨j+1,bg,by simp,by omega,ar.out.trans (zt.wrap ae (a9.trans (a8.mono (Sub.child t 21)))),?_⟩;rw [aw.out,Qh az.out (by simp) a1.out];exact⟨bb,bf,an.out⟩
    case measure=>simp [intOf];omega
   |false=>
    cases sl with
    |true=>
     go_wp2_with fail
     refine zd [O 0,O 1,O 2,O 3,O 4,O 5,O 6,O 7,E 8,E 9,O 10,O 11,E 12] (some 12) (λw'=>w'.cell? ⟨K.sb,j*5+1,none⟩=some (.int .i64 (sa:Nat))/\True) ⟨g1,trivial⟩ ?_
     refine Wl ?_
     refine zc rfl (λJ hJ=>?_);go_wp2_with fail
     refine(ap.out _ ((zy.loc b px sb lb pb av n (t++ [j])).below a4.out (zq (N2 _ _)))).mono ?_;rintro e w2⟨v2,rfl,aa,a7,ac⟩;have ae:Below wr.heap.size wr w2:=zh (zq (N2 _ _)) a7;have g2:w2.cell? ⟨K.sb,j*5+1,none⟩=some (.int .i64 (sa:Nat)):=(ae.cell (jO g1)).trans g1;obtain⟨a2,m2,c2,rfl⟩:=aa.shape;go_wp2;refine hJ.out _ _ (λ_=>⟨g2,trivial⟩) ?_;clear hJ J;have ba:=ay.out S1 (al.cut wr) 1 (j:Int) sa n.acc (.slice a2 m2 c2) w2 ⟨_,_,(zl.loc B K _ _ _ t).cut ag.out ae⟩ aa.src (λa l c e=>Own.cut_new (by cases e;exact ac _ rfl)) (by have:=ai.1;have:=ak.out.traceLe;omega) (by omega);replace aa:=hid aa;replace ac:=hid ac;refine zc rfl (λJ hJ=>?_);go_wp2_with fail
     refine ba.mono ?_;rintro e w3⟨rfl,bg,a9,bb,bf,am⟩;obtain⟨bu,bw,ad⟩:=am.srow;have g3:w3.cell? ⟨K.sb,j*5+1,none⟩=some (.int .i64 (sa:Nat)):=ad.cellL (jD af.out (j:=1) (by decide));have f3:=ad.frozen;have l3:=ad.lt;obtain⟨a8,an⟩:=am.setSeat (i:=j) (j:=1) (s':=⟨sg,max sa n.acc.length,sd,false,true⟩) (v:=.int .i64 (max sa n.acc.length:Nat)) af.out (by decide) rfl;go_wp2;refine hJ.out _ _ (λ_=>⟨g3,trivial⟩) ?_;clear hJ J;replace am:=hid am;replace an:=hid an;replace ad:=hid ad
     refine Wl ?_
     refine zc rfl (λJ hJ=>?_);go_wp2;refine hJ.out _ _ (λhh=>absurd rfl hh) ?_;clear hJ J;refine ze ?_;go_wp2
     go_roundw
     case rel=>
      refine⟨j+1,bg,by simp,by omega,ar.out.trans (zt.wrap ae (a9.trans (a8.mono (Sub.child t 21)))),?_⟩;rw [aw.out,Qh az.out (by simp) a1.out];exact⟨bb,bf,an.out⟩
     case measure=>simp [intOf];omega
    |false=>
     go_wp2
     go_roundw
     case rel=>exact⟨j+1,al,by simp,by omega,ar.out,by rw [aw.out,zau az.out rfl rfl];exact⟨_,_,ag.out⟩⟩
     case measure=>simp [intOf];omega
  obtain rfl:N=j:=by omega
  have t2:decide ((N:Int)<(N:Int))=false:=by simp
  have bq:=bo.out.told false (j:=N) (by omega);have bi:(YK SA false N).nodes.length=N:=by rw [J0];exact bj
  have a0:vq SA=YK (YK SA false N) true N:=by unfold vq YK;rw [bj]
  obtain⟨SB,b0⟩:∃SB,YK SA false N=SB:=⟨_,rfl⟩;rw [b0] at hW bq bi a0;rw [← b3] at a0;obtain⟨b1,br,ag⟩:=hW;have au:=ag.blk;rw [bi] at au;have e1:=au.cell;have bm:=ag;have a5:=ar;replace ag:=hid ag;replace bq:=hid bq;replace a0:=hid a0;replace bi:=hid bi;replace b0:=hid b0;replace a5:=hid a5;go_wp2;clear bk hj hjN ar
  go_loopw [52] (λp52 wr=>∃(j:Nat)(al:Own),p52=.int .i64 (j:Nat)/\j<=N/\zt t ow w al wr/\zI B K (YK SB true j) t al wr) (λp52 _=>N - (intOf p52).toNat)
  case atStart=>exact⟨0,al,rfl,by omega,a5.out,b1,br,bm⟩
  case round=>
   clear e1 bm au ag a5;obtain⟨j,al,rfl,hj,ar,hW⟩:=hrel;have y0:(0:Int)<=(j:Int):=by omega
   have bk:j<16->IntKind.i64.wrap ((j:Int)+1)=(j:Int)+1:=λ_=>by rw [N8];omega
   by_cases hjN:j<N
   ·skip
    have t2:decide ((j:Int)<(N:Int))=true:=by simpa using hjN
    have y1:(j:Int)<(N:Int):=by omega
    have bk:=bk (by omega);have ak:=bq.out.told true (j:=j) (by have:=bi.out;omega);have aw:=zat SB true j;have a6:=J0 SB true j;obtain⟨S1,bd⟩:∃S1,YK SB true j=S1:=⟨_,rfl⟩;rw [bd] at ak hW aw a6;have bh:S1.nodes.length=N:=by rw [a6];exact bi.out
    obtain⟨b1,br,ag⟩:=hW;obtain⟨n,a1⟩:∃n,zo S1 j=n:=⟨_,rfl⟩;have a3:=ak.node (i:=j) (by omega);rw [a1] at a3;obtain⟨b,be,px,sb,lb,pb,av,a4⟩:=ag.node (by omega) a3.1;have b5:=ag.nodeCell be;have ai:=a3.2.few;have bp:=ak.seats j _ (ak.seat (by omega));have af:=ak.seat (i:=j) (by omega);obtain⟨⟨sg,sa,sd,st,sl⟩,az⟩:∃s,jo S1 j=s:=⟨_,rfl⟩;rw [az] at af bp;simp only at bp;have au:=ag.blk;rw [bh] at au;have e1:=au.cell;obtain⟨os,ol,ax⟩:=ag.srow;have g1:wr.cell? ⟨K.sb,j*5+1,none⟩=some (.int .i64 (sa:Nat)):=ax.cellL (jD af (j:=1) (by decide));have g2:wr.cell? ⟨K.sb,j*5+2,none⟩=some (.int .i64 (sd:Nat)):=ax.cellL (jD af (j:=2) (by decide));have g3:wr.cell? ⟨K.sb,j*5+3,none⟩=some (.bool st):=ax.cellL (jD af (j:=3) (by decide));have g4:wr.cell? ⟨K.sb,j*5+4,none⟩=some (.bool sl):=ax.cellL (jD af (j:=4) (by decide));have ap:=λW hW=>Zn (px:=px) (sb:=sb) (lb:=lb) (pb:=pb) (av:=av) (n:=n) (B:=b) (t:=t++ [j]) (ow:=al) W hW (by have:=ai.1;omega)
    have aq:=λW hW=>Y7 (px:=px) (sb:=sb) (lb:=lb) (pb:=pb) (av:=av) (n:=n) (B:=b) W hW
    have ao:=λW hW=>zaE lb n.loc (t++ [j] ++ [2]) al W hW (by have:=ai.2;omega)
    replace ap:=hid ap;replace aq:=hid aq;replace ao:=hid ao;replace a3:=hid a3;replace a1:=hid a1;replace a6:=hid a6;replace az:=hid az;replace af:=hid af;replace aw:=hid aw;replace bd:=hid bd;replace bh:=hid bh;replace be:=hid be;replace a4:=hid a4;replace ak:=hid ak;replace ag:=hid ag;replace ar:=hid ar;replace au:=hid au;replace ax:=hid ax
    cases st with
    |true=>
     go_wp2_with fail
     refine zd [O 0,O 1,O 2,O 3,O 4,O 5,O 6,O 7,E 8,E 9,E 10,O 11,O 12,E 13] (some 13) (λw'=>w'.cell? ⟨K.sb,j*5+2,none⟩=some (.int .i64 (sd:Nat))/\True) ⟨g2,trivial⟩ ?_
     refine Wl ?_
     refine zc rfl (λJ hJ=>?_);go_wp2_with fail
     refine(aq.out _ ((zy.loc b px sb lb pb av n (t++ [j])).below a4.out (zq (N2 _ _))).blk).mono ?_;rintro e w1⟨rfl,bz⟩;obtain rfl:=bz.symm;go_wp2;refine hJ.out _ _ (λ_=>⟨g2,trivial⟩) ?_;clear hJ J;refine zc rfl (λJ hJ=>?_);go_wp2_with fail
     refine(ao.out _ ((zy.loc b px sb lb pb av n (t++ [j])).below a4.out (zq (N2 _ _))).lo).mono ?_;rintro e w2⟨v2,rfl,aa,a7,ac⟩;have ae:Below wr.heap.size wr w2:=zh (zq (N2 _ _)) a7;have b2:w2.cell? ⟨K.sb,j*5+2,none⟩=some (.int .i64 (sd:Nat)):=(ae.cell (jO g2)).trans g2;obtain⟨a2,m2,c2,rfl⟩:=aa.shape;go_wp2;refine hJ.out _ _ (λ_=>⟨b2,trivial⟩) ?_;clear hJ J;have ba:=ay.out S1 (al.cut wr) 3 (j:Int) sd n.loc.log (.slice a2 m2 c2) w2 ⟨_,_,(zl.loc B K _ _ _ t).cut ag.out ae⟩ aa.src (λa l c e=>Own.cut_new (by cases e;exact ac _ rfl)) (by have:=ai.2;have:=ak.out.traceLe;omega) (by omega);replace aa:=hid aa;replace ac:=hid ac;refine zc rfl (λJ hJ=>?_);go_wp2_with fail
     refine ba.mono ?_;rintro e w3⟨rfl,bg,a9,bb,bf,am⟩;obtain⟨bu,bw,ad⟩:=am.srow;have g3:w3.cell? ⟨K.sb,j*5+2,none⟩=some (.int .i64 (sd:Nat)):=ad.cellL (jD af.out (j:=2) (by decide));have f3:=ad.frozen;have l3:=ad.lt;obtain⟨a8,an⟩:=am.setSeat (i:=j) (j:=2) (s':=⟨sg,sa,max sd n.loc.log.length,true,sl⟩) (v:=.int .i64 (max sd n.loc.log.length:Nat)) af.out (by decide) rfl;obtain⟨b4,b6,ah⟩:=an.srow;have aj:=Qj (s:=⟨sg,sa,max sd n.loc.log.length,true,sl⟩) af.out;have g4:=ah.cellL (jD aj (j:=3) (by decide));have f4:=ah.frozen;have l4:=ah.lt;obtain⟨bv,bc⟩:=an.setSeat (i:=j) (j:=3) (s':=⟨sg,sa,max sd n.loc.log.length,false,sl⟩) (v:=.bool false) aj (by decide) rfl;go_wp2;refine hJ.out _ _ (λ_=>⟨g3,trivial⟩) ?_;clear hJ J;replace am:=hid am;replace an:=hid an;replace bc:=hid bc;replace ad:=hid ad;replace ah:=hid ah;replace aj:=hid aj
     refine Wl ?_
     refine zc rfl (λJ hJ=>?_);go_wp2;refine hJ.out _ _ (λhh=>absurd rfl hh) ?_;clear hJ J;refine ze ?_;go_wp2
     go_roundw
     case rel=>
      refine⟨j+1,bg,by simp,by omega,ar.out.trans (zt.wrap ae (a9.trans ((a8.mono (Sub.child t 21)).trans (bv.mono (Sub.child t 21))))),?_⟩;rw [aw.out,Qi az.out (by simp) a1.out];have:=bc.out;rw [YL] at this;exact⟨bb,bf,this⟩
     case measure=>simp [intOf];omega
    |false=>
     cases sl with
     |true=>
      go_wp2_with fail
      refine zd [O 0,O 1,O 2,O 3,O 4,O 5,O 6,O 7,E 8,E 9,E 10,O 11,O 12,E 13] (some 13) (λw'=>w'.cell? ⟨K.sb,j*5+2,none⟩=some (.int .i64 (sd:Nat))/\True) ⟨g2,trivial⟩ ?_
      refine Wl ?_
      refine zc rfl (λJ hJ=>?_);go_wp2_with fail
      refine(aq.out _ ((zy.loc b px sb lb pb av n (t++ [j])).below a4.out (zq (N2 _ _))).blk).mono ?_;rintro e w1⟨rfl,bz⟩;obtain rfl:=bz.symm;go_wp2;refine hJ.out _ _ (λ_=>⟨g2,trivial⟩) ?_;clear hJ J;refine zc rfl (λJ hJ=>?_);go_wp2_with fail
      refine(ao.out _ ((zy.loc b px sb lb pb av n (t++ [j])).below a4.out (zq (N2 _ _))).lo).mono ?_;rintro e w2⟨v2,rfl,aa,a7,ac⟩;have ae:Below wr.heap.size wr w2:=zh (zq (N2 _ _)) a7;have b2:w2.cell? ⟨K.sb,j*5+2,none⟩=some (.int .i64 (sd:Nat)):=(ae.cell (jO g2)).trans g2;obtain⟨a2,m2,c2,rfl⟩:=aa.shape;go_wp2;refine hJ.out _ _ (λ_=>⟨b2,trivial⟩) ?_;clear hJ J;have ba:=ay.out S1 (al.cut wr) 3 (j:Int) sd n.loc.log (.slice a2 m2 c2) w2 ⟨_,_,(zl.loc B K _ _ _ t).cut ag.out ae⟩ aa.src (λa l c e=>Own.cut_new (by cases e;exact ac _ rfl)) (by have:=ai.2;have:=ak.out.traceLe;omega) (by omega);replace aa:=hid aa;replace ac:=hid ac;refine zc rfl (λJ hJ=>?_);go_wp2_with fail
      refine ba.mono ?_;rintro e w3⟨rfl,bg,a9,bb,bf,am⟩;obtain⟨bu,bw,ad⟩:=am.srow;have g3:w3.cell? ⟨K.sb,j*5+2,none⟩=some (.int .i64 (sd:Nat)):=ad.cellL (jD af.out (j:=2) (by decide));have f3:=ad.frozen;have l3:=ad.lt;obtain⟨a8,an⟩:=am.setSeat (i:=j) (j:=2) (s':=⟨sg,sa,max sd n.loc.log.length,false,true⟩) (v:=.int .i64 (max sd n.loc.log.length:Nat)) af.out (by decide) rfl;obtain⟨b4,b6,ah⟩:=an.srow;have aj:=Qj (s:=⟨sg,sa,max sd n.loc.log.length,false,true⟩) af.out;have g4:=ah.cellL (jD aj (j:=3) (by decide));have f4:=ah.frozen;have l4:=ah.lt;obtain⟨bv,bc⟩:=an.setSeat (i:=j) (j:=3) (s':=⟨sg,sa,max sd n.loc.log.length,false,true⟩) (v:=.bool false) aj (by decide) rfl;go_wp2;refine hJ.out _ _ (λ_=>⟨g3,trivial⟩) ?_;clear hJ J;replace am:=hid am;replace an:=hid an;replace bc:=hid bc;replace ad:=hid ad;replace ah:=hid ah;replace aj:=hid aj
      refine Wl ?_
      refine zc rfl (λJ hJ=>?_);go_wp2;refine hJ.out _ _ (λhh=>absurd rfl hh) ?_;clear hJ J;refine ze ?_;go_wp2
      go_roundw
      case rel=>
       refine⟨j+1,bg,by simp,by omega,ar.out.trans (zt.wrap ae (a9.trans ((a8.mono (Sub.child t 21)).trans (bv.mono (Sub.child t 21))))),?_⟩;rw [aw.out,Qi az.out (by simp) a1.out];have:=bc.out;rw [YL] at this;exact⟨bb,bf,this⟩
      case measure=>simp [intOf];omega
     |false=>
      go_wp2
      go_roundw
      case rel=>exact⟨j+1,al,by simp,by omega,ar.out,by rw [aw.out,zau az.out rfl rfl];exact⟨_,_,ag.out⟩⟩
      case measure=>simp [intOf];omega
   obtain rfl:N=j:=by omega
   have t2:decide ((N:Int)<(N:Int))=false:=by simp
   go_wp2;go_end0
   exact⟨rfl,al,ar,by rw [a0.out];exact hW⟩
theorem zc0(w:World):(binOp .eql 40 (.slice none 0 0) (.slice none 0 0)).run prog w=.ok (.bool true) w:=by kernel_rfl
theorem zeu(a:Addr)(n c:Nat)(w:World):(binOp .eql 40 (.slice (some a) n c) (.slice none 0 0)).run prog w=.ok (.bool false) w:=by kernel_rfl
theorem zc1(v:Value)(l:List xV)(w:World)(hv:Src w v 5 l.length (l.flatMap jf))(hb:l.length<=1073741824):Calls prog 36 #[v] w λe w'=>
 ∃v',e=.returned v'/\Row w' 80 5 v' l.length (l.flatMap jf)/\Below w.heap.size w w'/\(∀g,v'.ownBlock=some g->w.heap.size<=g):=by
 have af:=zc0 w;have ai:=λa n c=>zeu a n c w
 have ae:=hv
 rcases hv.2 with⟨rfl,h0⟩|⟨b,off,cap,rfl,hc,hr⟩
 ·obtain rfl:l=[]:=N9 h0
  go_enter func36,ntmps36
  go_wp2;go_ret
  exact⟨_,rfl,z7 _ _ _,N2 _ _,by simp [Value.ownBlock]⟩
 clear hr hv
 replace ae:=hid ae;replace hb:=hid hb
 go_enter func36,ntmps36
 go_wp2_with (at_builtin
              obtain⟨v',w',ac,aa,ag,ad⟩:=zQ zmJ (zeK w 80 5) (Src.below (Hid.out ae) ((N2 _ _).alloc (N0 _) _)) (ZZ l) (by have:=hb.out;omega) 40
              refine zw rfl _ _ _ rfl rfl rfl ac ?_)
 go_ret
 refine⟨_,rfl,by simpa using aa,((N2 _ _).alloc (N0 _) _).grown ag (by simp) (λk hk=>by simp [Value.ownBlock] at hk;omega),λg hg=>?_⟩;have ah:v'.ownBlock=some g:=hg
 rcases ad with h1|h1<;>rw [ah] at h1<;>simp [Value.ownBlock] at h1<;>omega
variable {B:Nat}{K:WK}{tv:Value}{lp:Nat->Option Nat}{S:zf}{t:List Nat}{ow:Own}
theorem zhf(w:World)(h:zl B K tv lp S t ow w)(hn:S.trace.length<=1073741824):Calls prog 15 #[.pointer (some ⟨B,0,none⟩)] w λe w'=>
 ∃v',e=.returned v'/\Row w' 80 5 v' S.trace.length (S.trace.flatMap jf)/\Below w.heap.size w w'/\(∀g,v'.ownBlock=some g->w.heap.size<=g):=by
 have hi:=YI w h;have hc:=zc1 tv S.trace w h.trow.2.src hn;have e0:w.cell? ⟨B,6,none⟩=some tv:=h.blk.cell 6;replace hi:=hid hi;replace hc:=hid hc;clear h
 go_enter func15,ntmps15
 go_wp2_with fail
 refine hi.out.mono ?_;rintro e w1⟨rfl,aa⟩;obtain rfl:=aa.symm;go_wp2_with fail
 refine hc.out.mono ?_;rintro e w2⟨v',rfl,h1,h2,h3⟩;replace h3:=hid h3;go_wp2;go_ret
 exact⟨_,rfl,h1,h2,h3.out⟩
def zbm(S:zf)(i:Nat):zf:=setSeat S i {jo S i with lent:=true}
theorem zu.lent {v:Int}{k L:Nat}{S:zf}(h:zu v k L S){i:Nat}(hi:i<S.nodes.length):zu v k L (zbm S i):=h.setSeat hi _ ⟨(h.seats i _ (h.seat hi)).1,rfl,rfl⟩
theorem zc2(i:Nat)(hi:i<S.nodes.length)(hN:S.nodes.length<=16)(w:World)(h:zl B K tv lp S t ow w):∃b,K.nl[i]?=some b/\
 Calls prog 16 #[.pointer (some ⟨B,0,none⟩),.int .i64 i] w λe w'=>e=.returned (.pointer (some ⟨b,0,none⟩))/\zt t ow w ow w'/\zl B K tv lp (zbm S i) t ow w':=by
 have hn:=YI w h;have hd:=Qe i w h;rw [show(decide (0<=(i:Int))&& decide ((i:Int)<(S.nodes.length:Int)))=true by simp;omega] at hd;obtain⟨m,hm⟩:∃m,S.nodes[i]?=some m:=⟨_,N3 hi⟩;obtain⟨b,ac, -⟩:=h.node (by omega) hm;refine⟨b,ac,?_⟩;obtain⟨ak,ai,af⟩:=h.srow
 have ad:S.seats[i]?=some (jo S i):=by
  unfold jo;rw [N3 (by rw [ai];exact hi)];rfl
 have g4:=af.cellL (jD ad (j:=4) (by decide));have f4:=af.frozen;have l4:=af.lt;obtain⟨ag,aa⟩:=h.setSeat (v:=.bool true) (s':={jo S i with lent:=true}) ad (j:=4) (by decide) rfl;have c0:=h.blk.cell;have c1:=aa.blk.cell;have lB:=h.blk.lt;have aj:=h.nodeCell ac;have ah:=aa.nodeCell ac;have y0:(0:Int)<=(i:Int):=by omega
 have y1:(i:Int)<(S.nodes.length:Int):=by omega
 replace hn:=hid hn;replace hd:=hid hd;replace ad:=hid ad;replace aa:=hid aa;replace hm:=hid hm;replace ac:=hid ac;clear h
 go_enter func16,ntmps16
 go_wp2_with fail
 refine hn.out.mono ?_;rintro e w1⟨rfl,ae⟩;obtain rfl:=ae.symm;go_wp2_with fail
 refine hd.out.mono ?_;rintro e w1⟨rfl,ae⟩;obtain rfl:=ae.symm;go_wp2;go_ret
 exact⟨rfl,ag.mono (Sub.child t 21),aa.out⟩
end
section
open Go Go.RowKit Go.Shelf Go.Extern.Stop Go.Stop Go.Extern
attribute [local go_sem] Oper.semAt_some zB zp
theorem vQ:qt prog 3 zgZ:=qg
def zc3(i:Nat):Nat:=match i with
 |1=>45
 |2=>47
 |3=>49
 |4=>51
 |5=>53
 |6=>55
 |7=>57
 |8=>59
 |9=>61
 |_=>63
def Vh(bx i:Nat):Value:=.func (.func (zc3 i)) #[] #[.pointer (some ⟨bx,0,none⟩)]
theorem zhg(B:Nat)(w:World):Calls prog 25 #[.pointer (some ⟨B,0,none⟩)] w λe w'=>e=.returned (.map (some (w.heap.size+1)))/\Below w.heap.size w w'/\Blk w' w.heap.size #[.pointer (some ⟨B,0,none⟩)] 24/\z6 w' (w.heap.size+1) zgZ (zek w.heap.size):=by
 have aq:= @run_makeMap prog;obtain⟨W0,ae⟩:∃W0,W0=w.alloc (.cells #[.pointer (some ⟨B,0,none⟩)] 24):=⟨_,rfl⟩;have hz:W0.heap.size=w.heap.size+1:=by rw [ae];simp
 have ap:Below w.heap.size w W0:=by rw [ae];exact zi (N2 _ _) _
 have k0:Blk W0 w.heap.size #[.pointer (some ⟨B,0,none⟩)] 24:=by rw [ae];exact Blk.new rfl
 have m0:=z6.made W0 zgZ;obtain⟨o1,ad,m1⟩:=m0.update vQ Tryz.underlying63 1 (Vh w.heap.size 1);rw [jl] at ad m1;obtain⟨o2,af,m2⟩:=m1.update vQ Tryz.underlying63 2 (Vh w.heap.size 2);rw [jl] at af m2;obtain⟨o3,al,m3⟩:=m2.update vQ Tryz.underlying63 3 (Vh w.heap.size 3);rw [jl] at al m3;obtain⟨o4,ak,m4⟩:=m3.update vQ Tryz.underlying63 4 (Vh w.heap.size 4);rw [jl] at ak m4;obtain⟨o5,ai,m5⟩:=m4.update vQ Tryz.underlying63 5 (Vh w.heap.size 5);rw [jl] at ai m5;obtain⟨o6,ag,m6⟩:=m5.update vQ Tryz.underlying63 6 (Vh w.heap.size 6);rw [jl] at ag m6;obtain⟨o7,ah,m7⟩:=m6.update vQ Tryz.underlying63 7 (Vh w.heap.size 7);rw [jl] at ah m7;obtain⟨o8,am,m8⟩:=m7.update vQ Tryz.underlying63 8 (Vh w.heap.size 8);rw [jl] at am m8;obtain⟨o9,aj,m9⟩:=m8.update vQ Tryz.underlying63 9 (Vh w.heap.size 9);rw [jl] at aj m9;obtain⟨an,aa,ac⟩:=m9.update vQ Tryz.underlying63 10 (Vh w.heap.size 10);rw [jl] at aa ac;rw [hz] at ad af al ak ai ag ah am aj aa ac;clear m0 m1 m2 m3 m4 m5 m6 m7 m8 m9;unfold Vh zc3 zgZ at ad af al ak ai ag ah am aj aa;simp only at ad af al ak ai ag ah am aj aa;have ao:Below w.heap.size w (W0.alloc an):=zi ap _;have k1:=k0.alloc an;subst ae;replace ac:=hid ac
 go_enter func25,ntmps25
 go_wp2;go_ret
 exact⟨rfl,ao,k1,ac.out⟩
def opV(o:OpD):Value:=.agg #[.int .i64 o.kind,.int .i64 o.node,.int .i64 o.a,.int .i64 o.b,.int .u32 (o.mask:Nat),.string (bs o.s)]
structure zmm(o:OpD):Prop where
 len:o.s.length<=300
 mask:o.mask<4294967296
 b:o.b<9223372036854775808
theorem zu.eraLen {v:Int}{k L:Nat}{S:zf}(h:zu v k L S){i:Nat}(hi:i<S.nodes.length):(zo S i).loc.fold.eras.length<=536870912:=by
 have h1:=(h.node hi).2.ok.bounds;have:=h1.2.2.2.fold.eras;omega
variable {B:Nat}{K:WK}{S:zf}{v:Int}{k0 L:Nat}{t:List Nat}{ow:Own}{a:Addr}{w:World}
theorem zmK(hG:zu v k0 L S)(hL:L<=3000000000)(ht:t≠ [])(o:OpD)(h:zI B K S t ow w)(he:jK w a)(hge:ow 2=[]):Calls prog 49 #[opV o,.pointer (some ⟨K.bx,0,none⟩)] w (xK B K (xR S o.a).1 t ow w (.int .i64 (xR S o.a).2)):=by
 have ah:=λow W hW h1 h2=>zjd B K S hG hL t ht ow a o.a W hW h1 h2
 have aj:=he.lt;obtain⟨ae,ad,A,ag,ai,ac⟩:=o;unfold opV
 (try simp only at ah)
 have af:Below w.heap.size w (w.alloc (.cells #[.int .i64 ae,.int .i64 ad,.int .i64 A,.int .i64 ag,.int .u32 (ai:Nat),.string (bs ac)] 37)):=zi (N2 _ _) _;have ak:=(zI.loc B K S t).cut h af;have kO:Blk (w.alloc (.cells #[.int .i64 ae,.int .i64 ad,.int .i64 A,.int .i64 ag,.int .u32 (ai:Nat),.string (bs ac)] 37)) w.heap.size #[.int .i64 ae,.int .i64 ad,.int .i64 A,.int .i64 ag,.int .u32 (ai:Nat),.string (bs ac)] 37:=Blk.new rfl;obtain⟨tv,lp,aa⟩:=ak;have e0:=aa.does.2.2.2.cell;have e1:=kO.cell;have hc:=ah _ _ ⟨tv,lp,aa⟩ (he.below af aj) (by rw [Own.cut_old aj];exact hge);replace hc:=hid hc;replace aa:=hid aa;clear ah h
 go_enter func49,ntmps49
 go_wp2_with fail
 refine hc.out.mono ?_;rintro e w2⟨rfl,al,an,am⟩;go_wp2;go_ret
 exact⟨rfl,al,zt.wrap af an,am⟩
theorem zmL(hG:zu v k0 L S)(hL:L<=3000000000)(ht:t≠ [])(o:OpD)(i:Nat)(hn:o.node=i)(hi:i<S.nodes.length)(h:zI B K S t ow w):Calls prog 47 #[opV o,.pointer (some ⟨K.bx,0,none⟩)] w (xK B K (yw S i).1 t ow w (.int .i64 (yw S i).2)):=by
 have ag:=λow W hW=>zcY B K S hG hL t ht ow i hi (hG.eraLen hi) W hW
 obtain⟨ae,ad,A,af,ah,ac⟩:=o;unfold opV
 (try simp only at ag)
 have ai:Below w.heap.size w (w.alloc (.cells #[.int .i64 ae,.int .i64 ad,.int .i64 A,.int .i64 af,.int .u32 (ah:Nat),.string (bs ac)] 37)):=zi (N2 _ _) _;have aj:=(zI.loc B K S t).cut h ai;have kO:Blk (w.alloc (.cells #[.int .i64 ae,.int .i64 ad,.int .i64 A,.int .i64 af,.int .u32 (ah:Nat),.string (bs ac)] 37)) w.heap.size #[.int .i64 ae,.int .i64 ad,.int .i64 A,.int .i64 af,.int .u32 (ah:Nat),.string (bs ac)] 37:=Blk.new rfl;obtain⟨tv,lp,aa⟩:=aj;have e0:=aa.does.2.2.2.cell;have e1:=kO.cell;have hc:=ag _ _ ⟨tv,lp,aa⟩;replace hc:=hid hc;replace aa:=hid aa;clear ag h;subst hn
 go_enter func47,ntmps47
 go_wp2_with fail
 refine hc.out.mono ?_;rintro e w2⟨rfl,ak,am,al⟩;go_wp2;go_ret
 exact⟨rfl,ak,zt.wrap ai am,al⟩
end
open Go Go.RowKit Go.Shelf Go.Extern.Stop Go.Stop Go.Extern
attribute [local go_sem] Oper.semAt_some zB zp
variable {B:Nat}{K:WK}{S:zf}{v:Int}{k0 L:Nat}{t:List Nat}{ow:Own}{a:Addr}{w:World}
theorem zmM(hG:zu v k0 L S)(o:OpD)(i:Nat)(hn:o.node=i)(hi:i<S.nodes.length)(h:zI B K S t ow w):Calls prog 59 #[opV o,.pointer (some ⟨K.bx,0,none⟩)] w (xK B K (setNode S i (J4 (zo S i) o.a).1) t ow w (.int .i64 (J4 (zo S i) o.a).2)):=by
 obtain⟨ad,ao,A,af,ag,ac⟩:=o;simp only at hn;subst hn;unfold opV;have ae:i<16:=by have:=hG.n0;omega
 have y0:(0:Int)<=(i:Int):=by omega
 have y1:(i:Int)<(S.nodes.length:Int):=by omega
 have ai:Below w.heap.size w (w.alloc (.cells #[.int .i64 ad,.int .i64 (i:Nat),.int .i64 A,.int .i64 af,.int .u32 (ag:Nat),.string (bs ac)] 37)).drew:=zq (zi (N2 _ _) _);have al:=(zI.loc B K S t).cut h ai;have kO:Blk (w.alloc (.cells #[.int .i64 ad,.int .i64 (i:Nat),.int .i64 A,.int .i64 af,.int .u32 (ag:Nat),.string (bs ac)] 37)) w.heap.size #[.int .i64 ad,.int .i64 (i:Nat),.int .i64 A,.int .i64 af,.int .u32 (ag:Nat),.string (bs ac)] 37:=Blk.new rfl;obtain⟨tv,lp,aa⟩:=al;have ap:(ow.cut w) w.heap.size=[]:=Own.cut_new (N0 _);obtain⟨b,ah,px,sb,lb,pb,av,hN⟩:=aa.node ae (hG.node hi).1;have ak:=aa.nodeCell ah;have eX:=aa.does.2.2.2.cell 0;have cB:(w.alloc (.cells #[.int .i64 ad,.int .i64 (i:Nat),.int .i64 A,.int .i64 af,.int .u32 (ag:Nat),.string (bs ac)] 37)).drew.cell? ⟨B,0,none⟩=some (.slice (some ⟨K.nb,0,none⟩) S.nodes.length K.nc):=aa.blk.cell 0;have hc:=zku A _ hN;replace hc:=hid hc;replace aa:=hid aa;replace hN:=hid hN;replace ah:=hid ah
 go_enter func59,ntmps59
 go_wp2_with fail
 refine yV [O 0,O 1,O 2,O 3,O 4,O 5,O 6,O 7,O 8,O 9,E 10,O 11] (some 10) (λw'=>w'.cell? ⟨K.bx,0,none⟩=some (.pointer (some ⟨B,0,none⟩))/\w'.cell? ⟨B,0,none⟩=some (.slice (some ⟨K.nb,0,none⟩) S.nodes.length K.nc)/\w'.cell? ⟨K.nb,i,none⟩=some (.pointer (some ⟨b,0,none⟩))/\Blk w' w.heap.size #[.int .i64 ad,.int .i64 (i:Nat),.int .i64 A,.int .i64 af,.int .u32 (ag:Nat),.string (bs ac)] 37/\True) ⟨eX,cB,ak,kO,trivial⟩ ?_
 refine Ws ?_
 refine vj rfl (λJ hJ=>?_);go_wp2_with fail
 refine hc.out.mono ?_;rintro e w2⟨rfl,am,aj,an⟩;go_wp2;refine hJ.out _ _ ?_;clear hJ J
 refine Wg ?_
 refine jM ?_;go_wp2;go_ret
 exact⟨rfl,am,zt.wrap ai (aj.mono (Sub.child t i)),tv,lp,aa.out.setNode ae ah.out aj an⟩
theorem zmn(hG:zu v k0 L S)(o:OpD)(i:Nat)(hn:o.node=i)(hi:i<S.nodes.length)(h:zI B K S t ow w):Calls prog 63 #[opV o,.pointer (some ⟨K.bx,0,none⟩)] w (xK B K (setNode S i (JI (zo S i) o.a).1) t ow w (.int .i64 (JI (zo S i) o.a).2)):=by
 obtain⟨ad,ao,A,af,ag,ac⟩:=o;simp only at hn;subst hn;unfold opV;have ae:i<16:=by have:=hG.n0;omega
 have y0:(0:Int)<=(i:Int):=by omega
 have y1:(i:Int)<(S.nodes.length:Int):=by omega
 have ai:Below w.heap.size w (w.alloc (.cells #[.int .i64 ad,.int .i64 (i:Nat),.int .i64 A,.int .i64 af,.int .u32 (ag:Nat),.string (bs ac)] 37)).drew:=zq (zi (N2 _ _) _);have al:=(zI.loc B K S t).cut h ai;have kO:Blk (w.alloc (.cells #[.int .i64 ad,.int .i64 (i:Nat),.int .i64 A,.int .i64 af,.int .u32 (ag:Nat),.string (bs ac)] 37)) w.heap.size #[.int .i64 ad,.int .i64 (i:Nat),.int .i64 A,.int .i64 af,.int .u32 (ag:Nat),.string (bs ac)] 37:=Blk.new rfl;obtain⟨tv,lp,aa⟩:=al;have ap:(ow.cut w) w.heap.size=[]:=Own.cut_new (N0 _);obtain⟨b,ah,px,sb,lb,pb,av,hN⟩:=aa.node ae (hG.node hi).1;have ak:=aa.nodeCell ah;have eX:=aa.does.2.2.2.cell 0;have cB:(w.alloc (.cells #[.int .i64 ad,.int .i64 (i:Nat),.int .i64 A,.int .i64 af,.int .u32 (ag:Nat),.string (bs ac)] 37)).drew.cell? ⟨B,0,none⟩=some (.slice (some ⟨K.nb,0,none⟩) S.nodes.length K.nc):=aa.blk.cell 0;have hc:=ziN b _ _ _ A _ hN (hG.eraLen hi);replace hc:=hid hc;replace aa:=hid aa;replace hN:=hid hN;replace ah:=hid ah
 go_enter func63,ntmps63
 go_wp2_with fail
 refine yV [O 0,O 1,O 2,O 3,O 4,O 5,O 6,O 7,O 8,O 9,E 10,O 11] (some 10) (λw'=>w'.cell? ⟨K.bx,0,none⟩=some (.pointer (some ⟨B,0,none⟩))/\w'.cell? ⟨B,0,none⟩=some (.slice (some ⟨K.nb,0,none⟩) S.nodes.length K.nc)/\w'.cell? ⟨K.nb,i,none⟩=some (.pointer (some ⟨b,0,none⟩))/\Blk w' w.heap.size #[.int .i64 ad,.int .i64 (i:Nat),.int .i64 A,.int .i64 af,.int .u32 (ag:Nat),.string (bs ac)] 37/\True) ⟨eX,cB,ak,kO,trivial⟩ ?_
 refine Ws ?_
 refine vj rfl (λJ hJ=>?_);go_wp2_with fail
 refine hc.out.mono ?_;rintro e w2⟨rfl,am,aj,an⟩;go_wp2;refine hJ.out _ _ ?_;clear hJ J
 refine Wg ?_
 refine jM ?_;go_wp2;go_ret
 exact⟨rfl,am,zt.wrap ai (aj.mono (Sub.child t i)),tv,lp,aa.out.setNode ae ah.out aj an⟩
