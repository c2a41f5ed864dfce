/- PARTS OF THE PROOF. -/
import Derived.Test.YtofppfoioodblaaGreatDoorDA30
set_option maxRecDepth 8000
set_option maxHeartbeats 4000000
open Go.Proofs.Tryz
namespace Go.Proofs.YtofppfoioodblaaGreatDoor
section
open Go Go.RowKit Go.Shelf Go.Extern.Stop Go.Stop Go.Extern
attribute [local go_sem] Oper.semAt_some zB zo
theorem zaz(f:jV->Nat)(c:Nat):∀(l:List jV),(∀s∈l,f s<=c)->(l.map f).sum<=l.length*c
 | [],_=>by simp
 |x::l,h=>by
  have h1:=zaz f c l (λs hs=>h s (U7 _ hs));have h2:=h x (List.mem_cons_self ..);rw [List.map_cons,List.sum_cons,List.length_cons,Nat.add_mul];omega
theorem zr.traceLe {v:Int}{k L:Nat}{S:zf}(h:zr v k L S):S.trace.length<=k+12104128:=by
 have h1:=zaz (λs=>s.accepted+s.delivered) 756508 S.seats (λs hs=>by
  obtain⟨i,hi⟩:=List.mem_iff_getElem?.1 hs;have:=h.seats i s hi
  show s.accepted+s.delivered<=_
  omega)
 have h2:=h.seatsN;have h3:=h.n0;have h4:=h.trace;have h5:S.seats.length*756508<=16*756508:=Nat.mul_le_mul_right _ (by omega);omega
def YW(S:zf)(d:Bool)(j:Nat):zf:=(List.range j).foldl (λw i=>tellOne w d i) S
theorem zaA(S:zf)(d:Bool)(j:Nat):YW S d (j+1)=tellOne (YW S d j) d j:=by
 unfold YW;rw [List.range_succ,List.foldl_append];rfl
theorem J7(S:zf)(d:Bool)(j:Nat):(YW S d j).nodes=S.nodes:=qn d _ S
theorem zr.told {v:Int}{k L:Nat}{S:zf}(h:zr v k L S)(d:Bool){j:Nat}(hj:j<=S.nodes.length):zr v k L (YW S d j):=
 zr.tells d _ S h (λi hi=>by have:=List.mem_range.1 hi;omega)
theorem zaB {S:zf}{d:Bool}{i:Nat}{s:jV}(h:jj S i=s)(h1:s.stale=false)(h2:s.lent=false):tellOne S d i=S:=by
 unfold tellOne;simp only [h,h1,h2];rfl
theorem Ql {S:zf}{i:Nat}{s:jV}{n:zq}(h:jj S i=s)(h1:(s.stale||s.lent)=true)(hn:zn S i=n):tellOne S false i={setSeat S i {s with accepted:=max s.accepted n.acc.length} with trace:=S.trace++(n.acc.drop s.accepted).map λm=>((1:Int),(i:Int),m)} :=by
 unfold tellOne;simp only [h,h1,hn];rfl
theorem Qm {S:zf}{i:Nat}{s:jV}{n:zq}(h:jj S i=s)(h1:(s.stale||s.lent)=true)(hn:zn S i=n):tellOne S true i={setSeat S i {s with delivered:=max s.delivered n.loc.log.length,stale:=false} with trace:=S.trace++(n.loc.log.drop s.delivered).map λm=>((3:Int),(i:Int),m)} :=by
 unfold tellOne;simp only [h,h1,hn];rfl
theorem YX(S:zf)(i:Nat)(s s':jV):setSeat (setSeat S i s) i s'=setSeat S i s':=by
 unfold setSeat;simp
theorem Qn {S:zf}{i:Nat}{s0 s:jV}(h:S.seats[i]?=some s0):(setSeat S i s).seats[i]?=some s:=by
 unfold setSeat;exact List.getElem?_set_self (N6.1 h).1
theorem zdh(B:Nat)(K:WK)(S:zf){v:Int}{k0 L:Nat}(hG:zr v k0 L S)(hk:k0<=100000000)(t:List Nat)(ht:t≠ [])(ow:Own)(w:World)(h:zK B K S t ow w):
 Calls prog 32 #[.pointer (some ⟨B,0,none⟩)] w (qK B K (xp S) t ow w (.tuple #[])):=by
 obtain⟨N,bh⟩:∃N,S.nodes.length=N:=⟨_,rfl⟩;have b7:N<=16:=by have:=hG.n0;omega
 have au:=λ(S':zf) ow kind at' told l mv W hW h1 h2 h3 h4=>zkK B K S' t ht ow kind at' told l mv W hW h1 h2 h3 h4
 replace au:=hid au;obtain⟨b4,b6,bo⟩:=h;have bz:=bo.blk;rw [bh] at bz;have e0:=bz.cell;have bk:=hG;obtain⟨SA,b2⟩:∃SA,S=SA:=⟨_,rfl⟩;rw [b2] at bk bh bo;have bm:=bo;replace bo:=hid bo;replace bk:=hid bk
 go_enter func32,ntmps32
 go_wp2
 go_loopw [13] (λp13 wr=>∃(j:Nat)(ai:Own),p13=.int .i64 (j:Nat)/\j<=N/\zp t ow w ai wr/\zK B K (YW SA false j) t ai wr) (λp13 _=>N - (intOf p13).toNat)
 case atStart=>exact⟨0,ow,rfl,by omega,zp.refl _ _ _,b4,b6,bm⟩
 case round=>
  clear e0 bm hG bz;obtain⟨j,ai,rfl,hj,aq,hW⟩:=hrel;have y0:(0:Int)<=(j:Int):=by omega
  have bi:j<16->IntKind.i64.wrap ((j:Int)+1)=(j:Int)+1:=λ_=>by rw [N8];omega
  by_cases hjN:j<N
  ·skip
   have t2:decide ((j:Int)<(N:Int))=true:=by simpa using hjN
   have y1:(j:Int)<(N:Int):=by omega
   have bi:=bi (by omega);have ah:=bk.out.told false (j:=j) (by have:=bh;omega);have ar:=zaA SA false j;have a5:=J7 SA false j;obtain⟨S1,bc⟩:∃S1,YW SA false j=S1:=⟨_,rfl⟩;rw [bc] at ah hW ar a5;have be:S1.nodes.length=N:=by rw [a5];exact bh
   obtain⟨bw,bv,af⟩:=hW;obtain⟨n,a3⟩:∃n,zn S1 j=n:=⟨_,rfl⟩;have a0:=ah.node (i:=j) (by omega);rw [a3] at a0;obtain⟨b,a6,px,sb,lb,pb,av,a1⟩:=af.node (by omega) a0.1;have b5:=af.nodeCell a6;have ak:=a0.2.few;have bn:=ah.seats j _ (ah.seat (by omega));have ae:=ah.seat (i:=j) (by omega);obtain⟨⟨sg,sa,sd,st,sl⟩,aw⟩:∃s,jj S1 j=s:=⟨_,rfl⟩;rw [aw] at ae bn;simp only at bn;have ay:=af.blk;rw [be] at ay;have e1:=ay.cell;obtain⟨os,ol,ax⟩:=af.srow;have g1:wr.cell? ⟨K.sb,j*5+1,none⟩=some (.int .i64 (sa:Nat)):=ax.cellL (jC ae (j:=1) (by decide));have g2:wr.cell? ⟨K.sb,j*5+2,none⟩=some (.int .i64 (sd:Nat)):=ax.cellL (jC ae (j:=2) (by decide));have g3:wr.cell? ⟨K.sb,j*5+3,none⟩=some (.bool st):=ax.cellL (jC ae (j:=3) (by decide));have g4:wr.cell? ⟨K.sb,j*5+4,none⟩=some (.bool sl):=ax.cellL (jC ae (j:=4) (by decide));have ap:=λW hW=>YJ (px:=px) (sb:=sb) (lb:=lb) (pb:=pb) (av:=av) (n:=n) (B:=b) (t:=t++ [j]) (ow:=ai) W hW (by have:=ak.1;omega)
   have an:=λW hW=>Vj (px:=px) (sb:=sb) (lb:=lb) (pb:=pb) (av:=av) (n:=n) (B:=b) W hW
   have ao:=λW hW=>zaU lb n.loc (t++ [j] ++ [2]) ai W hW (by have:=ak.2;omega)
   replace ap:=hid ap;replace an:=hid an;replace ao:=hid ao;replace a0:=hid a0;replace a3:=hid a3;replace a5:=hid a5;replace aw:=hid aw;replace ae:=hid ae;replace ar:=hid ar;replace bc:=hid bc;replace be:=hid be;replace a6:=hid a6;replace a1:=hid a1;replace ah:=hid ah;replace af:=hid af;replace aq:=hid aq;replace ay:=hid ay;replace ax:=hid ax
   cases st with
   |true=>
    go_wp2_with fail
    refine zd [O 0,O 1,O 2,O 3,O 4,O 5,O 6,O 7,E 8,E 9,O 10,O 11,E 12] (some 12) (λw'=>w'.cell? ⟨K.sb,j*5+1,none⟩=some (.int .i64 (sa:Nat))/\True) (by kernel_rfl) (by kernel_rfl) ⟨g1,trivial⟩ ?_
    refine Wk ?_
    refine zc rfl (λJ hJ=>?_);go_wp2_with fail
    refine(ap.out _ ((zw.loc b px sb lb pb av n (t++ [j])).below a1.out (zm (N2 _ _)))).mono ?_;rintro e w2⟨v2,rfl,aa,a7,ac⟩;have ad:Below wr.heap.size wr w2:=ze (zm (N2 _ _)) a7;have g2:w2.cell? ⟨K.sb,j*5+1,none⟩=some (.int .i64 (sa:Nat)):=(ad.cell (jx g1)).trans g1;obtain⟨a2,m2,c2,rfl⟩:=aa.shape;go_wp2;refine hJ.out _ _ (λ_=>⟨g2,trivial⟩) ?_;clear hJ J;have bf:=au.out S1 (ai.cut wr) 1 (j:Int) sa n.acc (.slice a2 m2 c2) w2 ⟨_,_,(zk.loc B K _ _ _ t).cut af.out ad⟩ aa.src (λa l c e=>Own.cut_new (by cases e;exact ac _ rfl)) (by have:=ak.1;have:=ah.out.traceLe;omega) (by omega);replace aa:=hid aa;replace ac:=hid ac;refine zc rfl (λJ hJ=>?_);go_wp2_with fail
    refine bf.mono ?_;rintro e w3⟨rfl,a9,ba,bd,bg,aj⟩;obtain⟨br,b0,ab⟩:=aj.srow;have g3:w3.cell? ⟨K.sb,j*5+1,none⟩=some (.int .i64 (sa:Nat)):=ab.cellL (jC ae.out (j:=1) (by decide));have f3:=ab.frozen;have l3:=ab.lt;obtain⟨a8,am⟩:=aj.setSeat (i:=j) (j:=1) (s':=⟨sg,max sa n.acc.length,sd,true,sl⟩) (v:=.int .i64 (max sa n.acc.length:Nat)) ae.out (by decide) rfl;go_wp2;refine hJ.out _ _ (λ_=>⟨g3,trivial⟩) ?_;clear hJ J;replace aj:=hid aj;replace am:=hid am;replace ab:=hid ab
    refine Wk ?_
    refine zc rfl (λJ hJ=>?_);go_wp2;refine hJ.out _ _ (λhh=>absurd rfl hh) ?_;clear hJ J;refine zg ?_;go_wp2
    go_roundw
    case rel=>
     refine⟨j+1,a9,by simp,by omega,aq.out.trans (zp.wrap ad (ba.trans (a8.mono (Sub.child t 21)))),?_⟩;rw [ar.out,Ql aw.out (by simp) a3.out];exact⟨bd,bg,am.out⟩
    case measure=>simp [intOf];omega
   |false=>
    cases sl with
    |true=>
     go_wp2_with fail
     refine zd [O 0,O 1,O 2,O 3,O 4,O 5,O 6,O 7,E 8,E 9,O 10,O 11,E 12] (some 12) (λw'=>w'.cell? ⟨K.sb,j*5+1,none⟩=some (.int .i64 (sa:Nat))/\True) (by kernel_rfl) (by kernel_rfl) ⟨g1,trivial⟩ ?_
     refine Wk ?_
     refine zc rfl (λJ hJ=>?_);go_wp2_with fail
     refine(ap.out _ ((zw.loc b px sb lb pb av n (t++ [j])).below a1.out (zm (N2 _ _)))).mono ?_;rintro e w2⟨v2,rfl,aa,a7,ac⟩;have ad:Below wr.heap.size wr w2:=ze (zm (N2 _ _)) a7;have g2:w2.cell? ⟨K.sb,j*5+1,none⟩=some (.int .i64 (sa:Nat)):=(ad.cell (jx g1)).trans g1;obtain⟨a2,m2,c2,rfl⟩:=aa.shape;go_wp2;refine hJ.out _ _ (λ_=>⟨g2,trivial⟩) ?_;clear hJ J;have bf:=au.out S1 (ai.cut wr) 1 (j:Int) sa n.acc (.slice a2 m2 c2) w2 ⟨_,_,(zk.loc B K _ _ _ t).cut af.out ad⟩ aa.src (λa l c e=>Own.cut_new (by cases e;exact ac _ rfl)) (by have:=ak.1;have:=ah.out.traceLe;omega) (by omega);replace aa:=hid aa;replace ac:=hid ac;refine zc rfl (λJ hJ=>?_);go_wp2_with fail
     refine bf.mono ?_;rintro e w3⟨rfl,a9,ba,bd,bg,aj⟩;obtain⟨br,b0,ab⟩:=aj.srow;have g3:w3.cell? ⟨K.sb,j*5+1,none⟩=some (.int .i64 (sa:Nat)):=ab.cellL (jC ae.out (j:=1) (by decide));have f3:=ab.frozen;have l3:=ab.lt;obtain⟨a8,am⟩:=aj.setSeat (i:=j) (j:=1) (s':=⟨sg,max sa n.acc.length,sd,false,true⟩) (v:=.int .i64 (max sa n.acc.length:Nat)) ae.out (by decide) rfl;go_wp2;refine hJ.out _ _ (λ_=>⟨g3,trivial⟩) ?_;clear hJ J;replace aj:=hid aj;replace am:=hid am;replace ab:=hid ab
     refine Wk ?_
     refine zc rfl (λJ hJ=>?_);go_wp2;refine hJ.out _ _ (λhh=>absurd rfl hh) ?_;clear hJ J;refine zg ?_;go_wp2
     go_roundw
     case rel=>
      refine⟨j+1,a9,by simp,by omega,aq.out.trans (zp.wrap ad (ba.trans (a8.mono (Sub.child t 21)))),?_⟩;rw [ar.out,Ql aw.out (by simp) a3.out];exact⟨bd,bg,am.out⟩
     case measure=>simp [intOf];omega
    |false=>
     go_wp2
     go_roundw
     case rel=>exact⟨j+1,ai,by simp,by omega,aq.out,by rw [ar.out,zaB aw.out rfl rfl];exact⟨_,_,af.out⟩⟩
     case measure=>simp [intOf];omega
  obtain rfl:N=j:=by omega
  have t2:decide ((N:Int)<(N:Int))=false:=by simp
  have bp:=bk.out.told false (j:=N) (by omega);have bj:(YW SA false N).nodes.length=N:=by rw [J7];exact bh
  have az:xp SA=YW (YW SA false N) true N:=by unfold xp YW;rw [bh]
  obtain⟨SB,b1⟩:∃SB,YW SA false N=SB:=⟨_,rfl⟩;rw [b1] at hW bp bj az;rw [← b2] at az;obtain⟨bw,bv,af⟩:=hW;have ay:=af.blk;rw [bj] at ay;have e1:=ay.cell;have bl:=af;have a4:=aq;replace af:=hid af;replace bp:=hid bp;replace az:=hid az;replace bj:=hid bj;replace b1:=hid b1;replace a4:=hid a4;go_wp2;clear bi hj hjN aq
  go_loopw [52] (λp52 wr=>∃(j:Nat)(ai:Own),p52=.int .i64 (j:Nat)/\j<=N/\zp t ow w ai wr/\zK B K (YW SB true j) t ai wr) (λp52 _=>N - (intOf p52).toNat)
  case atStart=>exact⟨0,ai,rfl,by omega,a4.out,bw,bv,bl⟩
  case round=>
   clear e1 bl ay af a4;obtain⟨j,ai,rfl,hj,aq,hW⟩:=hrel;have y0:(0:Int)<=(j:Int):=by omega
   have bi:j<16->IntKind.i64.wrap ((j:Int)+1)=(j:Int)+1:=λ_=>by rw [N8];omega
   by_cases hjN:j<N
   ·skip
    have t2:decide ((j:Int)<(N:Int))=true:=by simpa using hjN
    have y1:(j:Int)<(N:Int):=by omega
    have bi:=bi (by omega);have ah:=bp.out.told true (j:=j) (by have:=bj.out;omega);have ar:=zaA SB true j;have a5:=J7 SB true j;obtain⟨S1,bc⟩:∃S1,YW SB true j=S1:=⟨_,rfl⟩;rw [bc] at ah hW ar a5;have be:S1.nodes.length=N:=by rw [a5];exact bj.out
    obtain⟨bw,bv,af⟩:=hW;obtain⟨n,a3⟩:∃n,zn S1 j=n:=⟨_,rfl⟩;have a0:=ah.node (i:=j) (by omega);rw [a3] at a0;obtain⟨b,a6,px,sb,lb,pb,av,a1⟩:=af.node (by omega) a0.1;have b5:=af.nodeCell a6;have ak:=a0.2.few;have bn:=ah.seats j _ (ah.seat (by omega));have ae:=ah.seat (i:=j) (by omega);obtain⟨⟨sg,sa,sd,st,sl⟩,aw⟩:∃s,jj S1 j=s:=⟨_,rfl⟩;rw [aw] at ae bn;simp only at bn;have ay:=af.blk;rw [be] at ay;have e1:=ay.cell;obtain⟨os,ol,ax⟩:=af.srow;have g1:wr.cell? ⟨K.sb,j*5+1,none⟩=some (.int .i64 (sa:Nat)):=ax.cellL (jC ae (j:=1) (by decide));have g2:wr.cell? ⟨K.sb,j*5+2,none⟩=some (.int .i64 (sd:Nat)):=ax.cellL (jC ae (j:=2) (by decide));have g3:wr.cell? ⟨K.sb,j*5+3,none⟩=some (.bool st):=ax.cellL (jC ae (j:=3) (by decide));have g4:wr.cell? ⟨K.sb,j*5+4,none⟩=some (.bool sl):=ax.cellL (jC ae (j:=4) (by decide));have ap:=λW hW=>YJ (px:=px) (sb:=sb) (lb:=lb) (pb:=pb) (av:=av) (n:=n) (B:=b) (t:=t++ [j]) (ow:=ai) W hW (by have:=ak.1;omega)
    have an:=λW hW=>Vj (px:=px) (sb:=sb) (lb:=lb) (pb:=pb) (av:=av) (n:=n) (B:=b) W hW
    have ao:=λW hW=>zaU lb n.loc (t++ [j] ++ [2]) ai W hW (by have:=ak.2;omega)
    replace ap:=hid ap;replace an:=hid an;replace ao:=hid ao;replace a0:=hid a0;replace a3:=hid a3;replace a5:=hid a5;replace aw:=hid aw;replace ae:=hid ae;replace ar:=hid ar;replace bc:=hid bc;replace be:=hid be;replace a6:=hid a6;replace a1:=hid a1;replace ah:=hid ah;replace af:=hid af;replace aq:=hid aq;replace ay:=hid ay;replace ax:=hid ax
    cases st with
    |true=>
     go_wp2_with fail
     refine zd [O 0,O 1,O 2,O 3,O 4,O 5,O 6,O 7,E 8,E 9,E 10,O 11,O 12,E 13] (some 13) (λw'=>w'.cell? ⟨K.sb,j*5+2,none⟩=some (.int .i64 (sd:Nat))/\True) (by kernel_rfl) (by kernel_rfl) ⟨g2,trivial⟩ ?_
     refine Wk ?_
     refine zc rfl (λJ hJ=>?_);go_wp2_with fail
     refine(an.out _ ((zw.loc b px sb lb pb av n (t++ [j])).below a1.out (zm (N2 _ _))).blk).mono ?_;rintro e w1⟨rfl,bu⟩;obtain rfl:=bu.symm;go_wp2;refine hJ.out _ _ (λ_=>⟨g2,trivial⟩) ?_;clear hJ J;refine zc rfl (λJ hJ=>?_);go_wp2_with fail
     refine(ao.out _ ((zw.loc b px sb lb pb av n (t++ [j])).below a1.out (zm (N2 _ _))).lo).mono ?_;rintro e w2⟨v2,rfl,aa,a7,ac⟩;have ad:Below wr.heap.size wr w2:=ze (zm (N2 _ _)) a7;have bt:w2.cell? ⟨K.sb,j*5+2,none⟩=some (.int .i64 (sd:Nat)):=(ad.cell (jx g2)).trans g2;obtain⟨a2,m2,c2,rfl⟩:=aa.shape;go_wp2;refine hJ.out _ _ (λ_=>⟨bt,trivial⟩) ?_;clear hJ J;have bf:=au.out S1 (ai.cut wr) 3 (j:Int) sd n.loc.log (.slice a2 m2 c2) w2 ⟨_,_,(zk.loc B K _ _ _ t).cut af.out ad⟩ aa.src (λa l c e=>Own.cut_new (by cases e;exact ac _ rfl)) (by have:=ak.2;have:=ah.out.traceLe;omega) (by omega);replace aa:=hid aa;replace ac:=hid ac;refine zc rfl (λJ hJ=>?_);go_wp2_with fail
     refine bf.mono ?_;rintro e w3⟨rfl,a9,ba,bd,bg,aj⟩;obtain⟨br,b0,ab⟩:=aj.srow;have g3:w3.cell? ⟨K.sb,j*5+2,none⟩=some (.int .i64 (sd:Nat)):=ab.cellL (jC ae.out (j:=2) (by decide));have f3:=ab.frozen;have l3:=ab.lt;obtain⟨a8,am⟩:=aj.setSeat (i:=j) (j:=2) (s':=⟨sg,sa,max sd n.loc.log.length,true,sl⟩) (v:=.int .i64 (max sd n.loc.log.length:Nat)) ae.out (by decide) rfl;obtain⟨b8,b3,ag⟩:=am.srow;have al:=Qn (s:=⟨sg,sa,max sd n.loc.log.length,true,sl⟩) ae.out;have g4:=ag.cellL (jC al (j:=3) (by decide));have f4:=ag.frozen;have l4:=ag.lt;obtain⟨bq,bb⟩:=am.setSeat (i:=j) (j:=3) (s':=⟨sg,sa,max sd n.loc.log.length,false,sl⟩) (v:=.bool false) al (by decide) rfl;go_wp2;refine hJ.out _ _ (λ_=>⟨g3,trivial⟩) ?_;clear hJ J;replace aj:=hid aj;replace am:=hid am;replace bb:=hid bb;replace ab:=hid ab;replace ag:=hid ag;replace al:=hid al
     refine Wk ?_
     refine zc rfl (λJ hJ=>?_);go_wp2;refine hJ.out _ _ (λhh=>absurd rfl hh) ?_;clear hJ J;refine zg ?_;go_wp2
     go_roundw
     case rel=>
      refine⟨j+1,a9,by simp,by omega,aq.out.trans (zp.wrap ad (ba.trans ((a8.mono (Sub.child t 21)).trans (bq.mono (Sub.child t 21))))),?_⟩;rw [ar.out,Qm aw.out (by simp) a3.out];have:=bb.out;rw [YX] at this;exact⟨bd,bg,this⟩
     case measure=>simp [intOf];omega
    |false=>
     cases sl with
     |true=>
      go_wp2_with fail
      refine zd [O 0,O 1,O 2,O 3,O 4,O 5,O 6,O 7,E 8,E 9,E 10,O 11,O 12,E 13] (some 13) (λw'=>w'.cell? ⟨K.sb,j*5+2,none⟩=some (.int .i64 (sd:Nat))/\True) (by kernel_rfl) (by kernel_rfl) ⟨g2,trivial⟩ ?_
      refine Wk ?_
      refine zc rfl (λJ hJ=>?_);go_wp2_with fail
      refine(an.out _ ((zw.loc b px sb lb pb av n (t++ [j])).below a1.out (zm (N2 _ _))).blk).mono ?_;rintro e w1⟨rfl,bu⟩;obtain rfl:=bu.symm;go_wp2;refine hJ.out _ _ (λ_=>⟨g2,trivial⟩) ?_;clear hJ J;refine zc rfl (λJ hJ=>?_);go_wp2_with fail
      refine(ao.out _ ((zw.loc b px sb lb pb av n (t++ [j])).below a1.out (zm (N2 _ _))).lo).mono ?_;rintro e w2⟨v2,rfl,aa,a7,ac⟩;have ad:Below wr.heap.size wr w2:=ze (zm (N2 _ _)) a7;have bt:w2.cell? ⟨K.sb,j*5+2,none⟩=some (.int .i64 (sd:Nat)):=(ad.cell (jx g2)).trans g2;obtain⟨a2,m2,c2,rfl⟩:=aa.shape;go_wp2;refine hJ.out _ _ (λ_=>⟨bt,trivial⟩) ?_;clear hJ J;have bf:=au.out S1 (ai.cut wr) 3 (j:Int) sd n.loc.log (.slice a2 m2 c2) w2 ⟨_,_,(zk.loc B K _ _ _ t).cut af.out ad⟩ aa.src (λa l c e=>Own.cut_new (by cases e;exact ac _ rfl)) (by have:=ak.2;have:=ah.out.traceLe;omega) (by omega);replace aa:=hid aa;replace ac:=hid ac;refine zc rfl (λJ hJ=>?_);go_wp2_with fail
      refine bf.mono ?_;rintro e w3⟨rfl,a9,ba,bd,bg,aj⟩;obtain⟨br,b0,ab⟩:=aj.srow;have g3:w3.cell? ⟨K.sb,j*5+2,none⟩=some (.int .i64 (sd:Nat)):=ab.cellL (jC ae.out (j:=2) (by decide));have f3:=ab.frozen;have l3:=ab.lt;obtain⟨a8,am⟩:=aj.setSeat (i:=j) (j:=2) (s':=⟨sg,sa,max sd n.loc.log.length,false,true⟩) (v:=.int .i64 (max sd n.loc.log.length:Nat)) ae.out (by decide) rfl;obtain⟨b8,b3,ag⟩:=am.srow;have al:=Qn (s:=⟨sg,sa,max sd n.loc.log.length,false,true⟩) ae.out;have g4:=ag.cellL (jC al (j:=3) (by decide));have f4:=ag.frozen;have l4:=ag.lt;obtain⟨bq,bb⟩:=am.setSeat (i:=j) (j:=3) (s':=⟨sg,sa,max sd n.loc.log.length,false,true⟩) (v:=.bool false) al (by decide) rfl;go_wp2;refine hJ.out _ _ (λ_=>⟨g3,trivial⟩) ?_;clear hJ J;replace aj:=hid aj;replace am:=hid am;replace bb:=hid bb;replace ab:=hid ab;replace ag:=hid ag;replace al:=hid al
      refine Wk ?_
      refine zc rfl (λJ hJ=>?_);go_wp2;refine hJ.out _ _ (λhh=>absurd rfl hh) ?_;clear hJ J;refine zg ?_;go_wp2
      go_roundw
      case rel=>
       refine⟨j+1,a9,by simp,by omega,aq.out.trans (zp.wrap ad (ba.trans ((a8.mono (Sub.child t 21)).trans (bq.mono (Sub.child t 21))))),?_⟩;rw [ar.out,Qm aw.out (by simp) a3.out];have:=bb.out;rw [YX] at this;exact⟨bd,bg,this⟩
      case measure=>simp [intOf];omega
     |false=>
      go_wp2
      go_roundw
      case rel=>exact⟨j+1,ai,by simp,by omega,aq.out,by rw [ar.out,zaB aw.out rfl rfl];exact⟨_,_,af.out⟩⟩
      case measure=>simp [intOf];omega
   obtain rfl:N=j:=by omega
   have t2:decide ((N:Int)<(N:Int))=false:=by simp
   go_wp2;go_end0
   exact⟨rfl,ai,aq,by rw [az.out];exact hW⟩
theorem qo:qe prog 3 zkD:=qw
def zeJ(i:Nat):Nat:=match i with
 |1=>45
 |2=>47
 |3=>49
 |4=>51
 |5=>53
 |6=>55
 |7=>57
 |8=>59
 |9=>61
 |_=>63
def Vr(bx i:Nat):Value:=.func (.func (zeJ i)) #[] #[.pointer (some ⟨bx,0,none⟩)]
theorem zhc(B:Nat)(w:World):Calls prog 25 #[.pointer (some ⟨B,0,none⟩)] w λe w'=>e=.returned (.map (some (w.heap.size+1)))/\Below w.heap.size w w'/\Blk w' w.heap.size #[.pointer (some ⟨B,0,none⟩)] 24/\zZ w' (w.heap.size+1) zkD (zez w.heap.size):=by
 have ap:= @run_makeMap prog;obtain⟨W0,ah⟩:∃W0,W0=w.alloc (.cells #[.pointer (some ⟨B,0,none⟩)] 24):=⟨_,rfl⟩;have hz:W0.heap.size=w.heap.size+1:=by rw [ah];simp
 have an:Below w.heap.size w W0:=by rw [ah];exact zi (N2 _ _) _
 have k0:Blk W0 w.heap.size #[.pointer (some ⟨B,0,none⟩)] 24:=by rw [ah];exact Blk.new rfl
 have m0:=zZ.made W0 zkD;obtain⟨o1,ad,m1⟩:=m0.update qo Tryz.underlying63 1 (Vr w.heap.size 1);rw [zC] at ad m1;obtain⟨o2,ac,m2⟩:=m1.update qo Tryz.underlying63 2 (Vr w.heap.size 2);rw [zC] at ac m2;obtain⟨o3,ak,m3⟩:=m2.update qo Tryz.underlying63 3 (Vr w.heap.size 3);rw [zC] at ak m3;obtain⟨o4,ag,m4⟩:=m3.update qo Tryz.underlying63 4 (Vr w.heap.size 4);rw [zC] at ag m4;obtain⟨o5,af,m5⟩:=m4.update qo Tryz.underlying63 5 (Vr w.heap.size 5);rw [zC] at af m5;obtain⟨o6,ae,m6⟩:=m5.update qo Tryz.underlying63 6 (Vr w.heap.size 6);rw [zC] at ae m6;obtain⟨o7,al,m7⟩:=m6.update qo Tryz.underlying63 7 (Vr w.heap.size 7);rw [zC] at al m7;obtain⟨o8,ai,m8⟩:=m7.update qo Tryz.underlying63 8 (Vr w.heap.size 8);rw [zC] at ai m8;obtain⟨o9,aj,m9⟩:=m8.update qo Tryz.underlying63 9 (Vr w.heap.size 9);rw [zC] at aj m9;obtain⟨am,aa,ab⟩:=m9.update qo Tryz.underlying63 10 (Vr w.heap.size 10);rw [zC] at aa ab;rw [hz] at ad ac ak ag af ae al ai aj aa ab;clear m0 m1 m2 m3 m4 m5 m6 m7 m8 m9;unfold Vr zeJ zkD at ad ac ak ag af ae al ai aj aa;simp only at ad ac ak ag af ae al ai aj aa;have ao:Below w.heap.size w (W0.alloc am):=zi an _;have k1:=k0.alloc am;subst ah;replace ab:=hid ab
 go_enter func25,ntmps25
 go_wp2;go_ret
 exact⟨rfl,ao,k1,ab.out⟩
def opV(o:OpD):Value:=.agg #[.int .i64 o.kind,.int .i64 o.node,.int .i64 o.a,.int .i64 o.b,.int .u32 (o.mask:Nat),.string (bs o.s)]
structure zmv(o:OpD):Prop where
 len:o.s.length<=300
 mask:o.mask<4294967296
 b:o.b<9223372036854775808
theorem zr.eraLen {v:Int}{k L:Nat}{S:zf}(h:zr v k L S){i:Nat}(hi:i<S.nodes.length):(zn S i).loc.fold.eras.length<=536870912:=by
 have h1:=(h.node hi).2.ok.bounds;have:=h1.2.2.2.fold.eras;omega
variable {B:Nat}{K:WK}{S:zf}{v:Int}{k0 L:Nat}{t:List Nat}{ow:Own}{a:Addr}{w:World}
theorem zmY(hG:zr v k0 L S)(hL:L<=3000000000)(ht:t≠ [])(o:OpD)(h:zK B K S t ow w)(he:jv w a)(hge:ow 2=[]):Calls prog 49 #[opV o,.pointer (some ⟨K.bx,0,none⟩)] w (qK B K (xL S o.a).1 t ow w (.int .i64 (xL S o.a).2)):=by
 have af:=λow W hW h1 h2=>zjg B K S hG hL t ht ow a o.a W hW h1 h2
 have ai:=he.lt;obtain⟨ad,ah,A,ab,ac,ag⟩:=o;unfold opV
 (try simp only at af)
 have ae:Below w.heap.size w (w.alloc (.cells #[.int .i64 ad,.int .i64 ah,.int .i64 A,.int .i64 ab,.int .u32 (ac:Nat),.string (bs ag)] 37)):=zi (N2 _ _) _;have aj:=(zK.loc B K S t).cut h ae;have kO:Blk (w.alloc (.cells #[.int .i64 ad,.int .i64 ah,.int .i64 A,.int .i64 ab,.int .u32 (ac:Nat),.string (bs ag)] 37)) w.heap.size #[.int .i64 ad,.int .i64 ah,.int .i64 A,.int .i64 ab,.int .u32 (ac:Nat),.string (bs ag)] 37:=Blk.new rfl;obtain⟨tv,lp,aa⟩:=aj;have e0:=aa.does.2.2.2.cell;have e1:=kO.cell;have hc:=af _ _ ⟨tv,lp,aa⟩ (he.below ae ai) (by rw [Own.cut_old ai];exact hge);replace hc:=hid hc;replace aa:=hid aa;clear af h
 go_enter func49,ntmps49
 go_wp2_with fail
 refine hc.out.mono ?_;rintro e w2⟨rfl,am,ak,al⟩;go_wp2;go_ret
 exact⟨rfl,am,zp.wrap ae ak,al⟩
theorem zmZ(hG:zr v k0 L S)(hL:L<=3000000000)(ht:t≠ [])(o:OpD)(i:Nat)(hn:o.node=i)(hi:i<S.nodes.length)(h:zK B K S t ow w):Calls prog 47 #[opV o,.pointer (some ⟨K.bx,0,none⟩)] w (qK B K (yo S i).1 t ow w (.int .i64 (yo S i).2)):=by
 have ae:=λow W hW=>zdg B K S hG hL t ht ow i hi (hG.eraLen hi) W hW
 obtain⟨ad,ag,A,ab,ac,af⟩:=o;unfold opV
 (try simp only at ae)
 have ah:Below w.heap.size w (w.alloc (.cells #[.int .i64 ad,.int .i64 ag,.int .i64 A,.int .i64 ab,.int .u32 (ac:Nat),.string (bs af)] 37)):=zi (N2 _ _) _;have ai:=(zK.loc B K S t).cut h ah;have kO:Blk (w.alloc (.cells #[.int .i64 ad,.int .i64 ag,.int .i64 A,.int .i64 ab,.int .u32 (ac:Nat),.string (bs af)] 37)) w.heap.size #[.int .i64 ad,.int .i64 ag,.int .i64 A,.int .i64 ab,.int .u32 (ac:Nat),.string (bs af)] 37:=Blk.new rfl;obtain⟨tv,lp,aa⟩:=ai;have e0:=aa.does.2.2.2.cell;have e1:=kO.cell;have hc:=ae _ _ ⟨tv,lp,aa⟩;replace hc:=hid hc;replace aa:=hid aa;clear ae h;subst hn
 go_enter func47,ntmps47
 go_wp2_with fail
 refine hc.out.mono ?_;rintro e w2⟨rfl,al,aj,ak⟩;go_wp2;go_ret
 exact⟨rfl,al,zp.wrap ah aj,ak⟩
end
section
open Go Go.RowKit Go.Shelf Go.Extern.Stop Go.Stop Go.Extern
attribute [local go_sem] Oper.semAt_some zB zo
variable {B:Nat}{K:WK}{S:zf}{v:Int}{k0 L:Nat}{t:List Nat}{ow:Own}{a:Addr}{w:World}
theorem zmw(hG:zr v k0 L S)(o:OpD)(i:Nat)(hn:o.node=i)(hi:i<S.nodes.length)(h:zK B K S t ow w):Calls prog 63 #[opV o,.pointer (some ⟨K.bx,0,none⟩)] w (qK B K (setNode S i (JR (zn S i) o.a).1) t ow w (.int .i64 (JR (zn S i) o.a).2)):=by
 obtain⟨ad,ao,A,ab,ac,ae⟩:=o;simp only at hn;subst hn;unfold opV;have af:i<16:=by have:=hG.n0;omega
 have y0:(0:Int)<=(i:Int):=by omega
 have y1:(i:Int)<(S.nodes.length:Int):=by omega
 have ai:Below w.heap.size w (w.alloc (.cells #[.int .i64 ad,.int .i64 (i:Nat),.int .i64 A,.int .i64 ab,.int .u32 (ac:Nat),.string (bs ae)] 37)).drew:=zm (zi (N2 _ _) _);have ak:=(zK.loc B K S t).cut h ai;have kO:Blk (w.alloc (.cells #[.int .i64 ad,.int .i64 (i:Nat),.int .i64 A,.int .i64 ab,.int .u32 (ac:Nat),.string (bs ae)] 37)) w.heap.size #[.int .i64 ad,.int .i64 (i:Nat),.int .i64 A,.int .i64 ab,.int .u32 (ac:Nat),.string (bs ae)] 37:=Blk.new rfl;obtain⟨tv,lp,aa⟩:=ak;have an:(ow.cut w) w.heap.size=[]:=Own.cut_new (N0 _);obtain⟨b,ag,px,sb,lb,pb,av,hN⟩:=aa.node af (hG.node hi).1;have al:=aa.nodeCell ag;have eX:=aa.does.2.2.2.cell 0;have cB:(w.alloc (.cells #[.int .i64 ad,.int .i64 (i:Nat),.int .i64 A,.int .i64 ab,.int .u32 (ac:Nat),.string (bs ae)] 37)).drew.cell? ⟨B,0,none⟩=some (.slice (some ⟨K.nb,0,none⟩) S.nodes.length K.nc):=aa.blk.cell 0;have hc:=ziM b _ _ _ A _ hN (hG.eraLen hi);replace hc:=hid hc;replace aa:=hid aa;replace hN:=hid hN;replace ag:=hid ag
 go_enter func63,ntmps63
 go_wp2_with fail
 refine QJ [O 0,O 1,O 2,O 3,O 4,O 5,O 6,O 7,O 8,O 9,E 10,O 11] (some 10) (λw'=>w'.cell? ⟨K.bx,0,none⟩=some (.pointer (some ⟨B,0,none⟩))/\w'.cell? ⟨B,0,none⟩=some (.slice (some ⟨K.nb,0,none⟩) S.nodes.length K.nc)/\w'.cell? ⟨K.nb,i,none⟩=some (.pointer (some ⟨b,0,none⟩))/\Blk w' w.heap.size #[.int .i64 ad,.int .i64 (i:Nat),.int .i64 A,.int .i64 ab,.int .u32 (ac:Nat),.string (bs ae)] 37/\True) (by kernel_rfl) (by kernel_rfl) ⟨eX,cB,al,kO,trivial⟩ ?_
 (repeat (refine zP (v:=?_) rfl rfl (λw' h=>?_) (λK k=>?_);rotate_left;obtain⟨f1,f2,f3,f4,_⟩:=h;have e4:=f4.cell;go_simp;(try with_reducible rfl);go_simp;refine k _ ?_;clear k K))
 refine J3 rfl (λJ hJ=>?_);go_wp2_with fail
 refine hc.out.mono ?_;rintro e w2⟨rfl,am,ah,aj⟩;go_wp2;refine hJ.out _ _ ?_;clear hJ J
 refine Wj ?_
 refine jS ?_;go_wp2;go_ret
 exact⟨rfl,am,zp.wrap ai (ah.mono (Sub.child t i)),tv,lp,aa.out.setNode af ag.out ah aj⟩
end
section
open Go Go.RowKit Go.Shelf Go.Extern.Stop Go.Stop Go.Extern
attribute [local go_sem] Oper.semAt_some zB zo
variable {B:Nat}{K:WK}{S:zf}{v:Int}{k0 L:Nat}{t:List Nat}{ow:Own}{a:Addr}{w:World}
theorem zm0(hG:zr v k0 L S)(ht:t≠ [])(o:OpD)(ho:zmv o)(i:Nat)(hn:o.node=i)(hi:i<S.nodes.length)(h:zK B K S t ow w):Calls prog 45 #[opV o,.pointer (some ⟨K.bx,0,none⟩)] w (qK B K (setNode (qk S i) i (zG (zn S i) o.s).1) t ow w (.int .i64 (zG (zn S i) o.s).2.2)):=by
 have bc:=ho.len;clear ho;obtain⟨ac,b0,A,ae,ad,aa⟩:=o;simp only at hn;subst hn;unfold opV;have ak:i<16:=by have:=hG.n0;omega
 have y0:(0:Int)<=(i:Int):=by omega
 have y1:(i:Int)<(S.nodes.length:Int):=by omega
 have a9:Below w.heap.size w (w.alloc (.cells #[.int .i64 ac,.int .i64 (i:Nat),.int .i64 A,.int .i64 ae,.int .u32 (ad:Nat),.string (bs aa)] 37)).drew:=zm (zi (N2 _ _) _);have bi:=(zK.loc B K S t).cut h a9;have kO:Blk (w.alloc (.cells #[.int .i64 ac,.int .i64 (i:Nat),.int .i64 A,.int .i64 ae,.int .u32 (ad:Nat),.string (bs aa)] 37)).drew w.heap.size #[.int .i64 ac,.int .i64 (i:Nat),.int .i64 A,.int .i64 ae,.int .u32 (ad:Nat),.string (bs aa)] 37:=(Blk.new rfl).drew;obtain⟨tv,lp,ag⟩:=bi;have ar:(ow.cut w) w.heap.size=[]:=Own.cut_new (N0 _);obtain⟨w1,a1⟩:∃x,x=w.alloc (.cells #[.int .i64 ac,.int .i64 (i:Nat),.int .i64 A,.int .i64 ae,.int .u32 (ad:Nat),.string (bs aa)] 37):=⟨_,rfl⟩;obtain⟨aq,aw⟩:∃x,x=ow.cut w:=⟨_,rfl⟩;rw [← aw] at ag ar;replace aw:=hid aw;rw [← a1] at a9 kO ag;have eX:=ag.does.2.2.2.cell 0;have bw:S.nodes.length=S.nodes.length:=rfl;simp only at bc;have bk:World.cell? w1.drew ⟨B,1,none⟩=some (.slice (some ⟨K.sb,0,none⟩) S.nodes.length S.nodes.length):=ag.blk.cell 1;obtain⟨bo,bu,ap⟩:=ag.srow;have g3:World.cell? w1.drew ⟨K.sb,i*5+3,none⟩=some (.bool (jj S i).stale):=ap.cellL (jC (hG.seat hi) (j:=3) (by decide));have f3:∀o,World.frozen? w1.drew ⟨K.sb,o,none⟩=false:=ap.frozen;have l3:K.sb<w1.drew.heap.size:=ap.lt;obtain⟨bf,ah⟩:=ag.setSeat (v:=.bool true) (s':={jj S i with stale:=true}) (hG.seat hi) (j:=3) (by decide) rfl;have bt:Blk (w1.drew.setCell ⟨K.sb,i*5+3,none⟩ (.bool true)) w.heap.size #[.int .i64 ac,.int .i64 (i:Nat),.int .i64 A,.int .i64 ae,.int .u32 (ad:Nat),.string (bs aa)] 37:=kO.other (p:=⟨K.sb,i*5+3,none⟩) (λe=>by have e':w.heap.size=K.sb:=e;rw [e',bo] at ar;simp at ar) _;have af:=(zk.loc B K tv lp _ t).below ah (zm (N2 _ _));have ao:zp t aq w1.drew aq (w1.drew.setCell ⟨K.sb,i*5+3,none⟩ (.bool true)).drew:=(bf.mono (Sub.child t 21)).trans (zp.drew _ _ _);have bq:=af.does.2.2.2.cell 0;have ab:Blk (w1.drew.setCell ⟨K.sb,i*5+3,none⟩ (.bool true)).drew w.heap.size #[.int .i64 ac,.int .i64 (i:Nat),.int .i64 A,.int .i64 ae,.int .u32 (ad:Nat),.string (bs aa)] 37:=bt.drew;replace ap:=hid ap;replace ah:=hid ah;replace ag:=hid ag;obtain⟨wA,au⟩:∃x,x=(w1.setCell ⟨K.sb,i*5+3,none⟩ (.bool true)).drew.drew:=⟨_,rfl⟩;have an:(w1.drew.setCell ⟨K.sb,i*5+3,none⟩ (.bool true)).drew=wA:=by rw [au];rfl
 rw [an] at af ao ab bq;clear an;obtain⟨b,ay,px,sb,lb,pb,av,hN⟩:=(af).node ak (hG.node hi).1;have a4:=(af).nodeCell ay;have a2:=(af).does.2.2.2.cell 0;have ba:World.cell? _ ⟨B,0,none⟩=some (.slice (some ⟨K.nb,0,none⟩) S.nodes.length K.nc):=(af).blk.cell 0;have am:zp t ow w aq wA:=zp.wrap a9 (by rw [← aw.out];exact ao);have bv:aq w.heap.size=[]:=ar;have a0:=(hG.node hi).2.ok.2;have bz:=(hG.node hi).2.few.1;have ai:=λW ow' hW=>QG (px:=px) (sb:=sb) (lb:=lb) (pb:=pb) (av:=av) b (zn S i) (t++ [i]) (by simp) ow' aa (by omega) W hW a0 (by omega)
 obtain⟨⟨m,⟨⟨mi,mc⟩,md⟩,er⟩,ax⟩:∃q,zG (zn S i) aa=q:=⟨_,rfl⟩;rw [ax] at ai;simp only [ax];unfold ziN vO at ai;simp only at ai;replace ai:=hid ai;replace ax:=hid ax;replace a0:=hid a0
 go_enter func45,ntmps45
 go_wp2_with fail
 rw [← a1];clear a1;refine zd [O 0,O 1,O 2,O 3,O 4,O 5,O 6,O 7,E 8] (some 8) (λw'=>w'.cell? ⟨K.bx,0,none⟩=some (.pointer (some ⟨B,0,none⟩))/\w'.cell? ⟨B,1,none⟩=some (.slice (some ⟨K.sb,0,none⟩) S.nodes.length S.nodes.length)/\Blk w' w.heap.size #[.int .i64 ac,.int .i64 (i:Nat),.int .i64 A,.int .i64 ae,.int .u32 (ad:Nat),.string (bs aa)] 37/\True) (by kernel_rfl) (by kernel_rfl) ⟨eX,bk,kO,trivial⟩ ?_
 refine Wq ?_
 refine zc rfl (λJ hJ=>?_);go_wp2;refine hJ.out _ _ (λhh=>absurd rfl hh) ?_;clear hJ J;refine zg ?_;go_wp2_with fail
 refine vB [O 0,O 1,O 2,O 3,O 4,O 5,O 6,O 7,O 8,O 9] (some 10) (λw'=>w'.cell? ⟨K.bx,0,none⟩=some (.pointer (some ⟨B,0,none⟩))/\w'.cell? ⟨B,0,none⟩=some (.slice (some ⟨K.nb,0,none⟩) S.nodes.length K.nc)/\w'.cell? ⟨K.nb,i,none⟩=some (.pointer (some ⟨b,0,none⟩))/\Blk w' w.heap.size #[.int .i64 ac,.int .i64 (i:Nat),.int .i64 A,.int .i64 ae,.int .u32 (ad:Nat),.string (bs aa)] 37/\True) #[true,true,true,true,true,true,true,true,true,true,false,false,false,false,false,false,false] (m:=7) (by kernel_rfl) (by kernel_rfl) (by rw [← au];exact⟨a2,ba,a4,ab,trivial⟩) ?_;rw [← au];clear au
 (repeat (refine zP (v:=?_) rfl rfl (λw' h=>?_) (λK k=>?_);rotate_left;obtain⟨f1,f2,f3,f4,_⟩:=h;(try have e1:=f1.cell);(try have e2:=f2.cell);(try have e3:=f3.cell);(try have e4:=f4.cell);go_simp;(try with_reducible rfl);go_simp;refine k _ ?_;clear k K))
 refine jS (λ_=>?_);refine X7 10 [14] (by kernel_rfl) ?_ (Vm ?_ X8)
 ·refine zcY rfl (by decide) (λJ hJ=>?_)
  go_wp2_with fail
  refine(ai.out _ _ hN).mono ?_;rintro e w2⟨rfl,a6,al,az⟩;have a5:=af.setNode ak ay al az;have aj:=am.trans (al.mono (Sub.child t i));go_wp2;refine hJ.out _ _ ?_;clear hJ J;refine xC [O 11,O 12,O 13,E 14,E 15,O 16] (by kernel_rfl) (λ_=>trivial) ?_
  refine Wj ?_
  refine jJ rfl (by simp) (λJ hJ=>?_);go_wp2;refine hJ.out _ _ trivial ?_;clear hJ J;refine jJ rfl (by simp) (λJ hJ=>?_);go_wp2;refine hJ.out _ _ trivial ?_;clear hJ J
  refine Wj ?_
  refine jS ?_;go_wp2;go_ret
  exact⟨rfl,_,aj.trans (zp.wrap (zi (N2 _ _) _) (zp.refl _ _ _)),tv,lp,(zk.loc B K tv lp _ t).cut a5 (zi (N2 _ _) _)⟩
 refine YN rfl (λJ hJ=>?_)
 go_wp2;refine hJ.out _ _ ⟨jo a2 _,jo ba _,jo a4 _,ab.alloc _,trivial⟩ ?_;clear hJ J;refine xC [E 10,O 11,O 12,O 13,E 15,O 16] (by kernel_rfl) (λ_=>⟨jo a2 _,jo ba _,jo a4 _,ab.alloc _,trivial⟩) ?_;refine J3 rfl (λJ hJ=>?_);go_wp2_with fail
 have a7:Below wA.heap.size wA (wA.alloc (.cells #[.int .i64 0,.int .u32 0,.string ⟨#[]⟩] 78)):=zi (N2 _ _) _;have kV:Blk (wA.alloc (.cells #[.int .i64 0,.int .u32 0,.string ⟨#[]⟩] 78)) wA.heap.size #[.int .i64 0,.int .u32 0,.string ⟨#[]⟩] 78:=Blk.new rfl;have bp:=(zk.loc B K tv lp _ t).cut af a7;have bh:=(zw.loc _ _ _ _ _ _ _ _).cut hN a7;have bd:(aq.cut wA) wA.heap.size=[]:=Own.cut_new (N0 _);refine(ai.out _ _ bh).mono ?_;rintro e w2⟨rfl,a6,al,az⟩;have a5:=bp.setNode ak ay al az;have bb:=kV.kept (al.block kV.lt (by rw [bd];exact zj (by simp)));have bm:a6 wA.heap.size=[]:=(al.agree _ kV.lt).trans bd;have aj:zp t ow w a6 w2:=am.trans (zp.wrap a7 (al.mono (Sub.child t i)));have br:=bb.cell;have bg:=bb.frozen;have bl:=bb.lt;go_wp2;refine hJ.out _ _ ?_;clear hJ J
 refine Wj ?_
 refine jJ rfl (by simp) (λJ hJ=>?_);go_wp2;refine hJ.out _ _ trivial ?_;clear hJ J br bg bl
 refine Wj ?_
 refine jS ?_;obtain⟨w3,a3⟩:∃x,x=((w2.setCell ⟨wA.heap.size,0,none⟩ (.int .i64 mi)).setCell ⟨wA.heap.size,1,none⟩ (.int .u32 (mc:Nat))).setCell ⟨wA.heap.size,2,none⟩ (.string (bs md)):=⟨_,rfl⟩;have be:Mod (λk=>k=wA.heap.size) w2 w3:=by rw [a3];exact(((Mod.refl (λk=>k=wA.heap.size) w2).thenSet (p:=⟨wA.heap.size,0,none⟩) rfl _).thenSet (p:=⟨wA.heap.size,1,none⟩) rfl _).thenSet (p:=⟨wA.heap.size,2,none⟩) rfl _
 rw [← a3];clear a3;have bn:=(zk.loc B K tv lp _ t).modFree ht a5 bm be;have bj:=am.size;have a8:=aj.modNew bj be;go_wp2;go_ret
 exact⟨rfl,_,a8,tv,lp,bn⟩
end
open Go Go.RowKit Go.Shelf Go.Extern.Stop Go.Stop Go.Extern
attribute [local go_sem] Oper.semAt_some zB zo
variable {B:Nat}{K:WK}{S:zf}{v:Int}{k0 L:Nat}{t:List Nat}{ow:Own}{a:Addr}{w:World}
theorem zji(hG:zr v k0 L S)(hL:L<=3000000000)(_hv:known v=true)(ht:t≠ [])(o:OpD)(ho:zmv o)(k:Nat)(hk:k=1∨k=2∨k=3∨k=10)(hkd:o.kind=k)(hi:¬(3<=o.kind/\o.kind<=6)->0<=o.node/\o.node<S.nodes.length)
 (h:zK B K S t ow w) (he:jv w a) (hge:ow 2=[]):Calls prog (zeJ k) #[opV o,.pointer (some ⟨K.bx,0,none⟩)] w (qK B K (vz S (zt v) o).1 t ow w (.int .i64 (vz S (zt v) o).2)):=by
 have hn:¬(3<=o.kind/\o.kind<=6)->o.node=(o.node.toNat:Nat)/\o.node.toNat<S.nodes.length:=λhk=>by have:=hi hk;omega
 rcases hk with rfl|rfl|rfl|rfl
 ·have:=hn (by rw [hkd];decide)
  have hd:vz S (zt v) o=(setNode (qk S o.node.toNat) o.node.toNat (zG (zn S o.node.toNat) o.s).1,(zG (zn S o.node.toNat) o.s).2.2):=by unfold vz;simp [hkd]
  rw [hd];exact zm0 hG ht o ho _ this.1 this.2 h
 ·have:=hn (by rw [hkd];decide)
  have hd:vz S (zt v) o=yo S o.node.toNat:=by unfold vz;simp [hkd]
  rw [hd];exact zmZ hG hL ht o _ this.1 this.2 h
 ·have hd:vz S (zt v) o=xL S o.a:=by unfold vz;simp [hkd]
  rw [hd];exact zmY hG hL ht o h he hge
 have:=hn (by rw [hkd];decide)
 have hd:vz S (zt v) o=(setNode S o.node.toNat (JR (zn S o.node.toNat) o.a).1,(JR (zn S o.node.toNat) o.a).2):=by unfold vz;simp [hkd]
 rw [hd];exact zmw hG o _ this.1 this.2 h
theorem zlT(bx:Nat){k:Nat}(h:1<=k/\k<=10):zH (k:Int) (zez bx)=some (Vr bx k):=by
 rcases(by omega:k=1∨k=2∨k=3∨k=4∨k=5∨k=6∨k=7∨k=8∨k=9∨k=10)with rfl|rfl|rfl|rfl|rfl|rfl|rfl|rfl|rfl|rfl<;>rfl
theorem zdi {k:Nat}(h:1<=k/\k<=10):∀args w,(callFunc (zeJ k) args).run prog w=.ok (.enter (zeJ k) args) w:=by
 rcases(by omega:k=1∨k=2∨k=3∨k=4∨k=5∨k=6∨k=7∨k=8∨k=9∨k=10)with rfl|rfl|rfl|rfl|rfl|rfl|rfl|rfl|rfl|rfl
 ·exact enters_of func45 (by kernel_rfl) rfl
 ·exact enters_of func47 (by kernel_rfl) rfl
 ·exact enters_of func49 (by kernel_rfl) rfl
 ·exact enters_of func51 (by kernel_rfl) rfl
 ·exact enters_of func53 (by kernel_rfl) rfl
 ·exact enters_of func55 (by kernel_rfl) rfl
 ·exact enters_of func57 (by kernel_rfl) rfl
 ·exact enters_of func59 (by kernel_rfl) rfl
 ·exact enters_of func61 (by kernel_rfl) rfl
 exact enters_of func63 (by kernel_rfl) rfl
