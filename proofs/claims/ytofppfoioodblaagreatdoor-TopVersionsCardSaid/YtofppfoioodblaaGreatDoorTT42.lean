/- PARTS OF THE PROOF. -/
import Derived.Lib.ConvBytes
import Derived.Test.YtofppfoioodblaaGreatDoorTT13
import Derived.Test.YtofppfoioodblaaGreatDoorTT30
import Derived.Test.YtofppfoioodblaaGreatDoorTT32
import Derived.Test.YtofppfoioodblaaGreatDoorTT41
set_option maxRecDepth 8000
set_option maxHeartbeats 4000000
open Go.Proofs.Tryz
namespace Go.Proofs.YtofppfoioodblaaGreatDoor
open Go Go.RowKit Go.Shelf Go.Extern.Stop Go.Stop Go.Extern
attribute [local go_sem] Oper.semAt_some zv zm
theorem zk.newLead {B:Nat}{K:WK}{tv:Value}{lp:Nat->Option Nat}{S:zf}{t:List Nat}{ow:Own}{W0 W:World}(h:zk B K tv lp S t ow W0)(hb:Below W0.heap.size W0 W){i lb:Nat}(hlb:W0.heap.size<=lb){l:j8}(hB:Blk W lb (zE (.slice none 0 0) l).toArray 175)(h1:l.promised.length=16)(h2:l.voted.length=16)(hp:l.promises=[])
 {ps:List (Int×Value)} {o:Obj} (hd:(ps.map (·.1)).Nodup) (hps:∀j:Nat,zD (j:Int) ps=(lp j).map λb=>.pointer (some ⟨b,0,none⟩)) (hM:jc (W.putObj K.lm o) K.lm Vb (put (i:Int) (.pointer (some ⟨lb,0,none⟩)) ps)):
 ∃ow',zq t ow W0 ow' (W.putObj K.lm o)/\(∀k,W0.heap.size<=k->k≠lb->ow' k=[])/\zk B K tv (λj=>if j=i then some lb else lp j) {S with leads:=put (i:Int) l S.leads} t ow' (W.putObj K.lm o):=by
 obtain⟨hho,ps0, -,hM0, -⟩:=h.leadsM;have hlt:=hM0.lt;have hoL:(ow.ext W0.heap.size (λk=>k=lb) (t++ [i+32])) K.lm=t++ [17]:=(Own.ext_old hlt).trans hho;have hob:(ow.ext W0.heap.size (λk=>k=lb) (t++ [i+32])) lb=t++ [i+32]:=Own.ext_new hlb rfl;have hI1:zk B K tv lp S t (ow.ext W0.heap.size (λk=>k=lb) (t++ [i+32])) W:=zk.loc B K tv lp S t _ _ _ _ h hb.size (λk hk _=>⟨Own.ext_old hk,hb.block k hk⟩);have hst:zq (t++ [17]) (ow.ext W0.heap.size (λk=>k=lb) (t++ [i+32])) W (ow.ext W0.heap.size (λk=>k=lb) (t++ [i+32])) (W.putObj K.lm o):=zq.putObj W K.lm o (by rw [hoL];exact Sub.rfl' _);refine⟨ow.ext W0.heap.size (λk=>k=lb) (t++ [i+32]),⟨(Mod.of_below (λk=>Sub t (ow k)) hb).trans (Mod.putObj (X:=λk=>k=K.lm) W K.lm o rfl) (λ_ _ e=>e) (λk hk e=>by subst e;rw [hho];exact Sub.child t 17),λk hk=>Own.ext_old hk⟩,λk h1 h2=>Own.ext_none h1 h2,?_⟩;refine⟨hI1.blk.kept (hst.block hI1.blk.lt (qq t 17 hI1.own)),hI1.own,λj=>?_⟩
 by_cases hj:j=17
 ·subst hj
  refine⟨hoL,_,Xf _ _ hd,hM,λj=>?_⟩;rw [yz]
  by_cases hji:j=i
  ·subst hji;simp
  ·rw [if_neg (by omega),hps];simp only [if_neg hji]
 by_cases hji:j=i+32
 ·subst hji
  unfold vN;rw [if_neg (by omega),if_neg (by omega),if_neg (by omega),if_neg (by omega),if_neg (by omega),if_neg (by omega),if_neg (by omega),if_neg (by omega),if_neg (by omega),Nat.add_sub_cancel];simp only [if_true,yz];refine⟨h1,h2,.slice none 0 0,hB.kept (hst.block hB.lt (by rw [hob];exact Z6 t (i:=17) (j:=i+32) (by omega) rfl)),?_,hob,λg hg=>by cases hg⟩;rw [hp];exact z7 _ _ _
 ·have hw:vN B K tv (λj=>if j=i then some lb else lp j) {S with leads:=put (i:Int) l S.leads} t j=vN B K tv lp S t j:=by
   unfold vN;simp only [if_neg hj]
   by_cases hj32:j<32
   ·simp only [if_pos hj32]
   ·simp only [if_neg (show¬j - 32=i by omega),yz,if_neg (show¬((j - 32:Nat):Int)=(i:Int)by omega)]
  rw [hw];exact(Zi B K tv lp S t j).step (hI1.part j) hst (zP t (Ne.symm hj))
def Vk(inst ballot:Nat)(value:List UInt8):j8:={inst:=inst,ballot:=ballot,value:=value,promises:=[],promised:=List.replicate 16 false,voted:=List.replicate 16 false,votes:=0,asked:=false,told:=false}
theorem zbY(B:Nat)(K:WK)(S:zf){v:Int}{k0 L:Nat}(hG:zu v k0 L S)(hL:L<=3000000000)(t:List Nat)(ht:t≠ [])(ow:Own)(i:Nat)(hi:i<S.nodes.length)(herr:(zr S i).loc.fold.eras.length<=536870912)(w:World)(h:zL B K S t ow w):
 Calls prog 48 #[.pointer (some ⟨B,0,none⟩),.int .i64 i] w (xZ B K (yk S i).1 t ow w (.int .i64 (yk S i).2)):=by
 obtain⟨tv,lp,hI⟩:=h;have hi16:i<16:=by have:=hG.n0;omega
 obtain⟨b,hnb,px,sb,lb0,pb,av,hN⟩:=hI.node hi16 (m:=zr S i) (hG.node hi).1;have hNG:=(hG.node hi).2;have hc0:=hI.nodeCell hnb;have hbk:=hN.blk;have hdw:=λW hW=>qL (px:=px) (sb:=sb) (lb:=lb0) (pb:=pb) (av:=av) (n:=zr S i) (B:=b) W hW
 have c0:=hI.blk.cell;obtain⟨os0,ol0,hs0⟩:=hI.srow;have g0:=hs0.cellL (jw (hG.seat hi) (j:=0) (by decide));rw [Nat.add_zero] at g0;have y0:(0:Int)<=(i:Int):=by omega
 have y1:(i:Int)<(S.nodes.length:Int):=by omega
 have hnx:=λW=>zhH (jg S i).greatest i hi16 W
 obtain⟨⟨nb,ne⟩,hnbl⟩:∃q,ju (jg S i).greatest i=q:=⟨_,rfl⟩;rw [hnbl] at hnx;simp only at hnx;replace hdw:=hid hdw;replace hnx:=hid hnx
 cases hdd:(zr S i).down with
 |true=>
  have hpw:yk S i=(S,170):=by unfold yk;rw [if_pos hdd]
  rw [hpw];rw [hdd] at hdw;replace hpw:=hid hpw;replace hdd:=hid hdd
  go_enter func48,ntmps48
  go_wp2_with fail
  refine(hdw.out _ hbk).mono ?_;rintro e w1⟨rfl,rfl⟩;go_wp2;go_ret
  exact⟨rfl,ow,zq.refl _ _ _,tv,lp,hI⟩
 |false=>
  rw [hdd] at hdw
  by_cases he:ne=0
  ·subst he
   obtain⟨⟨pv,pok⟩,hpp⟩:∃q,jP (zr S i)=q:=⟨_,rfl⟩;have hpl:=JU (zr S i)
   have hpw:yk S i=(j0 {setSeat S i {jg S i with greatest:=nb} with leads:=put (i:Int) (Vk (yy (zr S i)) nb pv) S.leads} 3 i (yy (zr S i)) nb [],0):=by
    unfold yk;rw [if_neg (by rw [hdd];simp),hnbl,if_neg (by simp),hpp];rfl
   rw [hpw];rw [hpp] at hpl;simp only at hpl;have hpr:=λW hW=>JN (px:=px) (sb:=sb) (lb:=lb0) (pb:=pb) (av:=av) b (zr S i) (t++ [i]) ow W hW herr
   have hnn:=λW hW=>zbw (px:=px) (sb:=sb) (lb:=lb0) (pb:=pb) (av:=av) b (zr S i) (t++ [i]) (by simp) ow W hW hNG.ok.bounds.2.2.1 hNG.known
   rw [hpp] at hpr;unfold okV at hpr;obtain⟨nx,hnxe⟩:∃n,yy (zr S i)=n:=⟨_,rfl⟩;rw [hnxe] at hnn;rw [hnxe];replace hpr:=hid hpr;replace hnn:=hid hnn;replace hpw:=hid hpw;replace hdd:=hid hdd;replace hnxe:=hid hnxe
   go_enter func48,ntmps48
   go_wp2_with fail
   refine(hdw.out _ hbk).mono ?_;rintro e w1⟨rfl,rfl⟩;go_wp2_with fail
   refine(hnx.out _).mono ?_;rintro e w1⟨rfl,rfl⟩;go_wp2_with fail
   refine(hpr.out _ hN).mono ?_;rintro e w2⟨rfl,hb2⟩;have hI2:=(zk.loc B K tv lp S t).below hI hb2;have c2:=hI2.blk.cell;have hc2:=hI2.nodeCell hnb;clear c0;go_wp2_with fail
   refine(hnn.out _ ((zx.loc _ _ _ _ _ _ _ _).below hN hb2)).mono ?_;rintro e w3⟨rfl,hb3⟩;have hb03:=zg hb2 hb3;have hI3:=(zk.loc B K tv lp S t).below hI hb03;clear c2 hc2;have c3:=hI3.blk.cell;have l3:=hI3.blk.lt;obtain⟨os3,ol3,hs3⟩:=hI3.srow;have g3:=hs3.cellL (jw (hG.seat hi) (j:=0) (by decide));rw [Nat.add_zero] at g3;have f3:=hs3.frozen;have ls3:=hs3.lt;obtain⟨hst5,hI5⟩:=hI3.setSeat (v:=.int .u64 (nb:Nat)) (s':={jg S i with greatest:=nb}) (hG.seat hi) (j:=0) (by decide) rfl;simp only [Nat.add_zero] at hst5 hI5;obtain⟨hho,ps,hd,hM4,hps⟩:=hI5.leadsM;have hlz:(w3.setCell ⟨K.sb,i*5,none⟩ (.int .u64 (nb:Nat))).heap.size=w3.heap.size:=by simp
   have hbA:Below (w3.setCell ⟨K.sb,i*5,none⟩ (.int .u64 (nb:Nat))).heap.size (w3.setCell ⟨K.sb,i*5,none⟩ (.int .u64 (nb:Nat))) ((w3.setCell ⟨K.sb,i*5,none⟩ (.int .u64 (nb:Nat))).alloc (.cells #[.int .i64 (nx:Nat),.int .u64 (nb:Nat),.string (bs pv),.slice none 0 0,.bool false,.bool false,.bool false,.bool false,.bool false,.bool false,.bool false,.bool false,.bool false,.bool false,.bool false,.bool false,.bool false,.bool false,.bool false,.bool false,.bool false,.bool false,.bool false,.bool false,.bool false,.bool false,.bool false,.bool false,.bool false,.bool false,.bool false,.bool false,.bool false,.bool false,.bool false,.bool false,.int .i64 0,.bool false,.bool false] 175)):=zi (N2 _ _) _;have kl:Blk ((w3.setCell ⟨K.sb,i*5,none⟩ (.int .u64 (nb:Nat))).alloc (.cells #[.int .i64 (nx:Nat),.int .u64 (nb:Nat),.string (bs pv),.slice none 0 0,.bool false,.bool false,.bool false,.bool false,.bool false,.bool false,.bool false,.bool false,.bool false,.bool false,.bool false,.bool false,.bool false,.bool false,.bool false,.bool false,.bool false,.bool false,.bool false,.bool false,.bool false,.bool false,.bool false,.bool false,.bool false,.bool false,.bool false,.bool false,.bool false,.bool false,.bool false,.bool false,.int .i64 0,.bool false,.bool false] 175)) w3.heap.size (zE (.slice none 0 0) (Vk nx nb pv)).toArray 175:=by rw [← hlz];exact Blk.new rfl
   have hM5:=hM4.kept (hbA.block K.lm hM4.lt);obtain⟨o,hup,hM6⟩:=hM5.update zdk Tryz.underlying58 (i:Int) (.pointer (some ⟨w3.heap.size,0,none⟩));obtain⟨ow6,hst6, -,hI6⟩:=hI5.newLead (i:=i) (lb:=w3.heap.size) hbA (by omega) kl (by simp [Vk]) (by simp [Vk]) rfl hd hps hM6;unfold Vb at hup;have hst36:=hst5.mono (Sub.child t 21)|>.trans hst6
   have kl6:=kl.putObj (show w3.heap.size≠K.lm from λe=>by have:=hM4.lt;rw [hlz] at this;omega) o;replace hst6:=hid hst6;replace hM6:=hid hM6;replace hps:=hid hps;have m0:=kl6.cellL (o:=0) (v:=.int .i64 (nx:Nat)) rfl;have m1:=kl6.cellL (o:=1) (v:=.int .u64 (nb:Nat)) rfl;have hsa:=Zk B K _ t ht ow6 3 i (by omega) hi16 nx nb (.slice none 0 0) [] _ ⟨tv,_,hI6⟩ (by have:=hG.room hL;exact⟨this.notes,this.last,this.n0⟩) ⟨rfl,.inl ⟨rfl,rfl⟩⟩ (by simp) (by simp) (λa l' c e=>by cases e);rw [show([]:List (List UInt8)).flatten=[] from rfl] at hsa;unfold xE at hsa;replace hsa:=hid hsa;replace hI6:=hid hI6;go_wp2_with fail
   refine hsa.out.mono ?_;rintro e w7⟨rfl,ow7,hs7,hW7⟩;go_wp2;go_ret
   exact⟨rfl,ow7,((zq.of_below t ow hb03).trans hst36).trans hs7,hW7⟩
  ·have hpw:yk S i=(S,ne):=by unfold yk;rw [if_neg (by rw [hdd];simp),hnbl,if_pos he]
   rw [hpw];have t1:(ne !=0)=true:=by simpa using he
   replace hpw:=hid hpw;replace hdd:=hid hdd;clear he
   go_enter func48,ntmps48
   go_wp2_with fail
   refine(hdw.out _ hbk).mono ?_;rintro e w1⟨rfl,rfl⟩;go_wp2_with fail
   refine(hnx.out _).mono ?_;rintro e w1⟨rfl,rfl⟩;go_wp2;go_ret
   exact⟨rfl,ow,zq.refl _ _ _,tv,lp,hI⟩
theorem zlw:Yc prog 40 80 5 48 (.agg #[.int .i64 0,.int .i64 0,.int .i64 0,.int .u32 0,.string ⟨#[]⟩]):=⟨Tryz.underlying40,by kernel_rfl,rfl,by decide,by decide⟩
theorem Y0(l:List JP):∀u∈l.flatMap xD,u.oneCell'=true:=by
 intro u hu;obtain⟨m,_,hm⟩:=List.mem_flatMap.1 hu;simp only [xD,List.mem_cons,List.mem_nil_iff,or_false] at hm
 rcases hm with rfl|rfl|rfl|rfl|rfl<;>rfl
theorem zk.setTrace {B:Nat}{K:WK}{tv tv':Value}{lp:Nat->Option Nat}{S:zf}{t:List Nat}{ow:Own}{W W7:World}(h:zk B K tv lp S t ow W){tr:List JP}
 (hrow:Row W7 80 5 tv' tr.length (tr.flatMap xD)) (hgr:W.grownBy W7 tv.ownBlock) (hown:tv'.ownBlock=tv.ownBlock∨tv'.ownBlock=some W.heap.size):
 ∃ow',zq t ow W ow' (W7.setCell ⟨B,6,none⟩ tv')/\(∀k,W.heap.size<=k->tv'.ownBlock≠some k->ow' k=[])/\zk B K tv' lp {S with trace:=tr} t ow' (W7.setCell ⟨B,6,none⟩ tv'):=by
 obtain⟨o22,hR⟩:=h.trow;have hneB:∀g,tv.ownBlock=some g->g≠B:=λg hg=>hR.ne_blk h.blk (by decide) hg
 have lB:=h.blk.lt
 have hg5:∀g,tv'.ownBlock=some g->(tv.ownBlock=some g∨g=W.heap.size):=λg hg=>by
  rw [hg] at hown
  rcases hown with h|h
  ·exact .inl h.symm
  ·right;simpa using h
 have k7:=h.blk.kept (w':=W7) (hgr.block B lB (λe=>hneB B e.symm rfl))
 have hneB':∀g,tv'.ownBlock=some g->g≠B:=λg hg e=>by
  rcases hg5 g hg with h1|h1
  ·exact hneB g h1 e
  ·omega
 have hst:zq t ow W (ow.ext W.heap.size (λk=>tv'.ownBlock=some k) (t++ [22])) (W7.setCell ⟨B,6,none⟩ tv'):=
  ⟨(Mod.grown (X:=λk=>Sub t (ow k)) hgr (λk h=>by rw [o22 k h];exact Sub.child t 22)).thenSet (p:=⟨B,6,none⟩) (by simp only [h.own];exact Sub.rfl' t) _,λk hk=>Own.ext_old hk⟩
 refine⟨ow.ext W.heap.size (λk=>tv'.ownBlock=some k) (t++ [22]),hst,λk h1 h2=>Own.ext_none h1 h2,k7.set tv',(Own.ext_old lB).trans h.own,λj=>?_⟩
 by_cases hj:j=22
 ·subst hj
  refine⟨λg hg=>?_,hrow.kept (λg hg=>N4 _ _ _ _ (λe=>hneB' g hg e))⟩
  rcases hg5 g hg with h1|h1
  ·rw [Own.ext_old (hR.lt h1),o22 g h1]
  ·rw [Own.ext_new (by omega) hg]
 ·have hw:vN B K tv' lp {S with trace:=tr} t j=vN B K tv lp S t j:=by
   unfold vN;simp only [if_neg hj]
  rw [hw];refine Zi B K tv lp S t j _ _ _ _ (h.part j) hst.size (λk hk hs=>⟨Own.ext_old hk,?_⟩);have hkB:k≠B:=λe=>by rw [e,h.own] at hs;exact zQ t j hs
  rw [N4 _ _ _ _ hkB];refine hgr.block k hk (λe=>?_);rw [o22 k e.symm] at hs;exact(zP t hj).1 hs
def qS(S:zf)(kind at':Int)(told:Nat)(l:List zy)(i:Nat):zf:={S with trace:=S.trace++((l.drop told).take (i - told)).map λm=>(kind,at',m)}
theorem zdp(S:zf)(kind at':Int)(told:Nat)(l:List zy):qS S kind at' told l told=S:=by
 unfold qS;simp
theorem zfR(S:zf)(kind at':Int)(told:Nat)(l:List zy){i:Nat}(hj:l.length<=i):qS S kind at' told l i={S with trace:=S.trace++(l.drop told).map λm=>(kind,at',m)} :=by
 unfold qS;rw [List.take_of_length_le (by rw [U3];omega)]
theorem zdq(S:zf)(kind at':Int)(told:Nat)(l:List zy){i:Nat}(hi:told<=i){x:zy}(hx:l[i]?=some x):qS S kind at' told l (i+1)={qS S kind at' told l i with trace:=(qS S kind at' told l i).trace++ [(kind,at',x)] } :=by
 unfold qS;rw [show i+1 - told=(i - told)+1 by omega,List.take_add_one,List.getElem?_drop,show told+(i - told)=i by omega,hx];simp
theorem zfS(S:zf)(kind at':Int)(told:Nat)(l:List zy)(i:Nat):(qS S kind at' told l i).trace.length<=S.trace.length+l.length:=by
 unfold qS;simp only [N1,List.length_map,N7,U3];omega
theorem zjh(B:Nat)(K:WK)(S:zf)(t:List Nat)(ht:t≠ [])(ow:Own)(kind at':Int)(told:Nat)(l:List zy)(mv:Value)(w:World)(h:zL B K S t ow w)
 (hv:Src w mv 3 l.length (l.flatMap zh)) (hv0:∀a l c,mv=.slice (some a) l c->ow a.block=[]) (hl:S.trace.length+l.length<=1000000000) (htd:told<=1000000000):
 Calls prog 69 #[.pointer (some ⟨B,0,none⟩),.int .i64 kind,.int .i64 at',.int .i64 told,mv] w (xZ B K {S with trace:=S.trace++(l.drop told).map λm=>(kind,at',m)} t ow w (.int .i64 (max told l.length:Nat))):=by
 obtain⟨va,vc,rfl⟩:∃a c,mv=.slice a l.length c:=by
  rcases hv.2 with⟨rfl,h0⟩|⟨b,off,cap,rfl, -⟩
  ·exact⟨none,0,by rw [h0]⟩
  ·exact⟨_,_,rfl⟩
 have hvn:∀a l' c,Value.slice va l.length vc=.slice (some a) l' c->¬Sub t (ow a.block):=λa l' c e=>by rw [hv0 a l' c e];exact zj ht
 replace hv:=hid hv;replace hvn:=hid hvn;clear hv0
 go_enter func69,ntmps69
 go_wp2
 go_loopw [3] (λp3 wr=>∃(i:Nat)(ow':Own),p3=.int .i64 (i:Nat)/\told<=i/\(i=told∨i<=l.length)/\zq t ow w ow' wr/\zL B K (qS S kind at' told l i) t ow' wr) (λp3 _=>told+l.length - (intOf p3).toNat)
 case atStart=>exact⟨told,ow,rfl,N0 _,.inl rfl,zq.refl _ _ _,by rw [zdp];exact h⟩
 case round=>
  obtain⟨i,ow',rfl,h1,h2,hst,hW⟩:=hrel;clear h
  by_cases hjN:i<l.length
  ·have t2:decide ((i:Int)<(l.length:Int))=true:=by simpa using hjN
   have y0:(0:Int)<=(i:Int):=by omega
   have y1:(i:Int)<(l.length:Int):=by omega
   have hwj:IntKind.i64.wrap ((i:Int)+1)=(i:Int)+1:=by rw [N8];omega
   obtain⟨⟨⟨xi,xc⟩,xd⟩,hx⟩:∃x,l[i]?=some x:=⟨_,N3 hjN⟩;have hvr:=hv.out.step hst (λa l' c e=>hvn.out a l' c e)
   obtain⟨b,off,rfl⟩:∃b off,va=some ⟨b,off,none⟩:=by
    rcases hvr.2 with⟨-,h0⟩|⟨b,off,cap,h0, -⟩
    ·omega
    ·cases h0;exact⟨_,_,rfl⟩
   obtain⟨c0,c1,c2⟩:=Z1 hvr hx;simp only at c0 c1 c2;obtain⟨tv,lp,hI⟩:=hW;have hlenS:=zfS S kind at' told l i;have hsucc:=zdq S kind at' told l h1 hx;obtain⟨S1,hS1⟩:∃S1,qS S kind at' told l i=S1:=⟨_,rfl⟩;rw [hS1] at hI hlenS hsucc;have cB:wr.cell? ⟨B,6,none⟩=some tv:=hI.blk.cell 6;obtain⟨o22,hR⟩:=hI.trow;obtain⟨ta,tc,rfl⟩:=hR.wideV.shape;have lB:=hI.blk.lt;replace hx:=hid hx;replace hS1:=hid hS1;replace hsucc:=hid hsucc;replace hvr:=hid hvr;replace hR:=hid hR;replace o22:=hid o22;replace hI:=hid hI;have hlb:=jH c0;go_wp2_with fail
   refine zd [O 0,O 1,O 2,O 3,O 4,O 5,O 6,O 7,O 8,O 9,O 10,E 11,E 12,E 13,O 14,O 15,E 16] (some 16) (λw'=>w'.cell? ⟨B,6,none⟩=some (.slice ta S1.trace.length tc)/\w'.cell? ⟨b,off+i*3,none⟩=some (.int .i64 xi)/\w'.cell? ⟨b,off+i*3+1,none⟩=some (.int .u32 xc)/\w'.cell? ⟨b,off+i*3+2,none⟩=some (.string (bs xd))/\True) (by kernel_rfl) (by kernel_rfl) ⟨cB,c0,c1,c2,trivial⟩ ?_
   (repeat (refine za (v:=?_) rfl rfl (λw' h=>?_) (λK k=>?_);rotate_left;obtain⟨f1,f2,f3,f4,_⟩:=h;go_simp;(try with_reducible rfl);go_simp;refine k _ ?_;clear k K))
   refine zc rfl (λJ hJ=>?_);go_wp2;refine hJ.out _ _ (λ_=>⟨cB,c0,c1,c2,trivial⟩) ?_;clear hJ J;refine zc rfl (λJ hJ=>?_);go_wp2;refine hJ.out _ _ (λ_=>⟨jz (w:=wr) cB _,jz (w:=wr) c0 _,jz (w:=wr) c1 _,jz (w:=wr) c2 _,trivial⟩) ?_;clear hJ J;obtain⟨W5,hW5⟩:∃W5,W5=(wr.alloc (.cells #[.int .i64 kind,.int .i64 at',.int .i64 xi,.int .u32 xc,.string (bs xd)] 80)).drew:=⟨_,rfl⟩;have hb5:Below wr.heap.size wr W5:=by rw [hW5];exact zo (zi (N2 _ _) _)
   have k5:Blk W5 wr.heap.size #[.int .i64 kind,.int .i64 at',.int .i64 xi,.int .u32 xc,.string (bs xd)] 80:=by rw [hW5];exact(Blk.new rfl).drew
   have hsrc5:Src W5 (.slice (some ⟨wr.heap.size,0,none⟩) 1 1) 5 [((kind,at',(xi,xc),xd):JP)].length ([((kind,at',(xi,xc),xd):JP)].flatMap xD):=jM (n:=1) (size:=5) (cap:=1) k5 rfl (N0 1);rw [← hW5];clear hW5;have hI5:=(zk.loc B K _ lp _ t).cut hI.out hb5;obtain⟨pv',W7,hrun,hrow,hgr,hown⟩:=zT zlw (hR.out.below hb5) hsrc5 (Y0 _) (by simp;omega) 40
   have hrow':Row W7 80 5 pv' (S1.trace++ [(kind,at',(xi,xc),xd)]).length ((S1.trace++ [(kind,at',(xi,xc),xd)]).flatMap xD):=by
    rw [N1,U5];exact hrow
   obtain⟨sa,sc,rfl⟩:=hrow'.wideV.shape;obtain⟨ow8,hs8,hfr8,hI8⟩:=hI5.setTrace hrow' hgr hown;simp only [N1,U2] at hs8 hI8;have cB5:W5.cell? ⟨B,6,none⟩=some (.slice ta S1.trace.length tc):=(hb5.cell lB).trans cB;have k7:=hI5.blk.kept (w':=W7) (hgr.block B hI5.blk.lt (λe=>(hI5.trow.2).ne_blk hI5.blk (by decide) e.symm rfl));have cB7:W7.cell? ⟨B,6,none⟩=some (.slice ta S1.trace.length tc):=k7.cell 6;have fB7:=k7.frozen;have lB7:=k7.lt;have hbw:=jH (Z1 hv.out hx.out).1
   have hneb:∀g,(Value.slice ta S1.trace.length tc).ownBlock=some g->g≠b:=λg hg e=>hvn.out ⟨b,off,none⟩ _ _ rfl (by
    have h1:=o22.out g hg;rw [e,hst.agree b hbw] at h1
    show Sub t (ow b)
    rw [h1];exact Sub.child t 22)
   have hb7:W7.heap[b]?=wr.heap[b]?:=(hgr.block b (by have:=hb5.size;have:=jH c0;simp at this;omega) (λe=>hneb b e.symm rfl)).trans (hb5.block b (by have:=jH c0;simpa using this));have d0:=(World.cell?_of_block (w:=wr) (w':=W7) (a:=⟨b,off+i*3,none⟩) hb7).trans c0;have d1:=(World.cell?_of_block (w:=wr) (w':=W7) (a:=⟨b,off+i*3+1,none⟩) hb7).trans c1;have d2:=(World.cell?_of_block (w:=wr) (w':=W7) (a:=⟨b,off+i*3+2,none⟩) hb7).trans c2;replace hrow':=hid hrow';replace hrow:=hid hrow;replace hgr:=hid hgr;replace hown:=hid hown;replace hI5:=hid hI5;replace hI8:=hid hI8;replace hs8:=hid hs8;replace k7:=hid k7;replace hneb:=hid hneb;replace hfr8:=hid hfr8;clear c0 c1 c2 cB cB5 hb7 hlb;refine zc rfl (λJ hJ=>?_);refine zw rfl _ _ _ rfl rfl rfl hrun ?_;unfold wpList;refine hJ.out _ _ (λ_=>⟨cB7,d0,d1,d2,trivial⟩) ?_;clear hJ J
   (repeat (refine za (v:=?_) rfl rfl (λw' h=>?_) (λK k=>?_);rotate_left;obtain⟨f1,f2,f3,f4,_⟩:=h;go_simp;(try with_reducible rfl);go_simp;refine k _ ?_;clear k K))
   refine zc rfl (λJ hJ=>?_);go_wp2;refine hJ.out _ _ (λhh=>absurd rfl hh) ?_;clear hJ J;refine ze ?_;go_wp2
   go_roundw
   case rel=>exact⟨i+1,ow8,by simp,by omega,by omega,hst.trans (zq.wrap hb5 hs8.out),by rw [hsucc.out];exact⟨_,_,hI8.out⟩⟩
   case measure=>simp [intOf];omega
  ·have t2:decide ((i:Int)<(l.length:Int))=false:=by simpa using hjN
   have hmx:max told l.length=i:=by omega
   go_wp2;go_ret
   exact⟨by rw [hmx];rfl,ow',hst,by rw [← zfR S kind at' told l (i:=i) (by omega)];exact hW⟩
