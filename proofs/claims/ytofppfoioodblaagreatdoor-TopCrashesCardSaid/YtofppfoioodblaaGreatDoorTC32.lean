/- PARTS OF THE PROOF. -/
import Derived.Test.YtofppfoioodblaaGreatDoorTC31
set_option maxRecDepth 8000
set_option maxHeartbeats 4000000
open Go.Proofs.Tryz
namespace Go.Proofs.YtofppfoioodblaaGreatDoor
open Go Go.RowKit Go.Shelf Go.Extern.Stop Go.Stop Go.Extern
attribute [local go_sem] Oper.semAt_some zB zp
theorem zlM(n:Nat)(b:Bool)(x:Int)(w:World):(Instr.checkKey b (n+1) 35 (.int .u32 x)).run prog w=.ok () w:=by
 simp [Instr.checkKey,go_sem]
theorem zlN:qt prog 35 zhw where
 eq:=λk k' w=>by
  have h:(Op.equal 35 (zhw k) (zhw k')).run prog w=(Op.equalIn 10000 35 (.int .u32 k) (.int .u32 k')).run prog w:=rfl;rw [h];have h2:((k:Int)=(k':Int))=(k=k'):=by simp only [eq_iff_iff];omega
  simp [go_sem]
  by_cases h1:k=k'
  ·simp [h1]
  simp [h1,h2]
 chk:=λb k w=>zlM 9999 b k w
 bits:=λk=>by simp [zhw,Instr.sameBits]
 now:=⟨_,Tryz.underlying35,λk k'=>by
  by_cases h:k=k'
  ·right;subst h;simp [zhw,Instr.sameNow]
  right
  have h2:((k:Int)=(k':Int))=False:=by simp only [eq_iff_iff,iff_false];omega
  simp [zhw,Instr.sameNow,h,h2]⟩
theorem zl.setHurt {B:Nat}{K:WK}{tv:Value}{lp:Nat->Option Nat}{S:zf}{t:List Nat}{ow:Own}{W:World}(h:zl B K tv lp S t ow W){o:Obj}{hu:List (Nat×Unit)}(hM:z6 (W.putObj K.hm o) K.hm zhw (hu.map λq=>(q.1,Jn))):
 zt (t++ [18]) ow W ow (W.putObj K.hm o)/\zl B K tv lp {S with hurt:=hu} t ow (W.putObj K.hm o):=by
 obtain⟨ho, -⟩:=h.hurtM;have aa:zt (t++ [18]) ow W ow (W.putObj K.hm o):=zt.putObj W K.hm o (by rw [ho];exact Sub.rfl' _);refine⟨aa,h.setPart 18 aa rfl (λj' hj'=>?_) ⟨ho,hM⟩⟩;unfold xg;simp only [if_neg hj']
theorem zkJ {S:zf}{p:Int}{x:zf5}(h0:0<=p)(hx:S.notes[p.toNat]?=some x):zml S p=(x.1,true)/\zbc S.notes p=(S.notes.eraseIdx p.toNat,x,0):=by
 unfold zml zbc;rw [if_neg (by omega),if_neg (by omega),hx];exact⟨rfl,rfl⟩
theorem Zq {px sb lb pb:Nat}{av:Value}{n:zr}{B:Nat}(w:World)(hB:Blk w B (zz px sb lb pb av n) 98):Calls prog 66 #[.pointer (some ⟨B,0,none⟩)] w λe w'=>e=.returned (.bool n.down)/\w'=w:=by
 have hr:=vw w hB;unfold ZJ at hr;replace hr:=hid hr
 cases hd:n.down
 all_goals
  rw [hd] at hr;replace hd:=hid hd;replace hB:=hid hB
  go_enter func66,ntmps66
  go_wp2_with fail
  refine hr.out.mono ?_;rintro e w1⟨rfl,rfl⟩;go_wp2;go_ret
  exact⟨rfl,rfl⟩
theorem zjd(B:Nat)(K:WK)(S:zf){v:Int}{k0 L:Nat}(hG:zu v k0 L S)(hL:L<=3000000000)(t:List Nat)(ht:t≠ [])(ow:Own)(a:Addr)(p:Int)(w:World)(h:zI B K S t ow w)
 (he:jK w a) (hge:ow 2=[]):
 Calls prog 50 #[.pointer (some ⟨B,0,none⟩),.int .i64 p] w (xK B K (xR S p).1 t ow w (.int .i64 (xR S p).2)):=by
 obtain⟨tv,lp,hI⟩:=h;have ad:=λW ow hW=>zgY K.fb S.last S.notes (t++ [16]) ow p W hW hG.notesN
 have c0:=hI.blk.cell
 by_cases hp:0<=p/\p<S.notes.length
 ·obtain⟨⟨id,dst,ae⟩,hx⟩:∃x,S.notes[p.toNat]?=some x:=⟨_,N3 (by omega)⟩
  obtain⟨-,e2⟩:=zkJ hp.1 hx;have bf:=hG.notes _ (List.mem_of_getElem? hx);have bd:=hG.erase hx;obtain⟨dn,rfl⟩:∃n:Nat,dst=n:=⟨dst.toNat,by have:=bf.dst.1;simp only at this;omega⟩;have bm:dn<S.nodes.length:=by have:=bf.dst.2;simp only at this;omega
  have ah:xR S p=if(zf4 ae).2=0/\(zo S dn).down=false then(yN {S with notes:=S.notes.eraseIdx p.toNat,hurt:=del id S.hurt} dn (zf4 ae).1,0)else({S with notes:=S.notes.eraseIdx p.toNat,hurt:=del id S.hurt},0):=by
   unfold xR;rw [if_neg (by omega),hx];rfl
  obtain⟨S1,bc⟩:∃S1,({S with notes:=S.notes.eraseIdx p.toNat,hurt:=del id S.hurt} :zf)=S1:=⟨_,rfl⟩;rw [e2] at ad;unfold zi1 at ad;simp only at ad bd;rw [bc] at ah bd;have au:S1.nodes=S.nodes:=by rw [← bc]
  obtain⟨R,hR⟩:∃R,xR S p=R:=⟨_,rfl⟩;rw [hR] at ah⊢;clear hR;replace ah:=hid ah;replace ad:=hid ad;clear hp
  go_enter func50,ntmps50
  go_wp2_with fail
  refine(ad.out _ _ hI.flight).mono ?_;rintro e w1⟨rfl,am,ak,bb⟩;have ar:=hI.setFlight ak bb;clear c0
  try simp only at ar
  go_wp2_with fail
  obtain⟨W2,a3⟩:∃W2,W2=w1.alloc (.cells #[.int .u32 (id:Nat),.int .i64 (dn:Nat),.string (bs ae)] 178):=⟨_,rfl⟩;have aj:Below w1.heap.size w1 W2:=by rw [a3];exact zi (N2 _ _) _
  have a0:Blk W2 w1.heap.size #[.int .u32 (id:Nat),.int .i64 (dn:Nat),.string (bs ae)] 178:=by rw [a3];exact Blk.new rfl
  have az:=(zl.loc B K tv lp _ t).cut ar aj;have b3:(am.cut w1) w1.heap.size=[]:=Own.cut_new (N0 _);have ao:zt t ow w (am.cut w1) W2:=(ak.mono (Sub.child t 16)).trans (zt.wrap aj (zt.refl _ _ _));have bh:(am.cut w1) 2=[]:=(Own.cut_old (Nat.lt_of_lt_of_le he.lt ak.size)).trans ((ak.agree _ he.lt).trans hge);have bg:jK W2 a:=(ao.cell (p:=⟨2,0,none⟩) he.lt (by show¬Sub _ (ow 2);rw [hge];exact zj ht)).trans he;rw [← a3];clear a3 aj ar
  generalize am.cut w1=ow2 at*
  generalize w1.heap.size=nb at*
  have a5:=az.blk;obtain⟨bw,bj⟩:=az.hurtM;obtain⟨o,al,a1⟩:=(bj.kept (w':=W2.drew) rfl).delete zlN Tryz.underlying61 #[61,35] 0 rfl id;have a1:z6 (W2.drew.putObj K.hm o) K.hm zhw ((del id S.hurt).map λq=>(q.1,Jn)):=by have h3:=V5 (λ_:Unit=>Jn) id S.hurt;rw [← h3];exact a1
  have bl:=(zl.loc B K tv lp _ t).below az (zq (N2 _ _));obtain⟨a2,ax⟩:=bl.setHurt a1;unfold zhw at al
  try simp only at a5 ax
  rw [show({nodes:=S.nodes,seats:=S.seats,leads:=S.leads,last:=S.last,notes:=S.notes.eraseIdx p.toNat,hurt:=del id S.hurt,trace:=S.trace} :zf)=S1 from bc] at ax;have af:=ao.trans ((zt.of_below t _ (zq (N2 _ _))).trans (a2.mono (Sub.child t 18)));have be:=a0.drew.kept (a2.block a0.drew.lt (by rw [b3];exact zj (by simp)));have ay:jK (W2.drew.putObj K.hm o) a:=(a2.cell (p:=⟨2,0,none⟩) bg.lt (by show¬Sub _ (ow2 2);rw [bh];exact zj (by simp))).trans bg;obtain⟨N,hN⟩:∃N,S.nodes.length=N:=⟨_,rfl⟩;simp only [hN] at a5;refine zd [O 0,O 1,O 2,O 3,O 4,O 5,E 6] (some 6) (λw'=>Blk w' B #[.slice (some ⟨K.nb,0,none⟩) N K.nc,.slice (some ⟨K.sb,0,none⟩) N N,.map (some K.lm),.pointer (some ⟨K.fb,0,none⟩),.map (some K.hm),.map (some K.dm),tv] 65/\Blk w' nb #[.int .u32 (id:Nat),.int .i64 (dn:Nat),.string (bs ae)] 178/\True) ⟨a5.drew,a0.drew,trivial⟩ ?_
  refine We ?_
  refine zc rfl (λJ hJ=>?_);refine yt rfl _ _ _ _ rfl rfl rfl al ?_;unfold wpList;refine hJ.out _ _ (λhh=>absurd rfl hh) ?_;clear hJ J;refine ze ?_;have af:zt t ow w ow2 (W2.drew.putObj K.hm o):=af;obtain⟨w3,bn⟩:∃x,x=W2.drew.putObj K.hm o:=⟨_,rfl⟩;rw [← bn] at af ax be ay⊢;clear bn a2 a1 al bj bw bl a5 a0 az bg;have c3:=be.cell;have ap:xU ae=none/\ae.length<=5000∨qC S.nodes.length (dn:Int) ae:=bf.form
  rcases ap with⟨hop,bq⟩|hlet
  ·have ag:=λW=>zg6 ae (by omega) hop W
   have aw:(zf4 ae).2=21:=by unfold zf4;rw [hop]
   have aa:=ah.out;rw [aw,if_neg (by simp)] at aa;have q1:R.1=S1:=by rw [aa]
   have q2:R.2=0:=by rw [aa]
   clear aa;replace q1:=hid q1;replace q2:=hid q2;unfold zmH at ag;replace ag:=hid ag;go_wp2_with fail
   refine(ag.out _).mono ?_;rintro e w4⟨rfl,a8⟩;go_wp2_with fail
   obtain⟨W5,ai⟩:∃x,x=w4.alloc (.cells #[.int .i64 0,.int .i64 0,.int .i64 0,.int .i64 0,.int .u32 0,.int .u32 0,.int .u32 0,.int .u32 0,.string ⟨#[]⟩] 182):=⟨_,rfl⟩;have ac:Below w3.heap.size w3 W5:=by rw [ai];exact zi a8 _
   rw [← ai];clear ai;refine zd [O 0,O 1,O 2,O 3,O 4,O 5,O 6,O 7,O 8,O 9,O 10,E 11,O 12,O 13] none (λ_=>True) trivial ?_
   refine We ?_
   refine Wj ?_
   refine zc rfl (λJ hJ=>?_);go_wp2;refine hJ.out _ _ (λ_=>trivial) ?_;clear hJ J
   refine Wj ?_
   refine We ?_
   refine ze ?_;go_wp2;go_ret
   exact⟨by rw [q2.out];rfl,_,af.trans (zt.wrap (zq ac) (zt.refl _ _ _)),by rw [q1.out];exact⟨tv,lp,(zl.loc B K tv lp _ t).cut ax (zq ac)⟩⟩
  obtain⟨bq, -,kind,src,data,b5,bu,bi,aw,a9⟩:=hlet.dec hG.n0.2 ⟨by omega,by omega⟩
  have ag:=λW=>zg5 kind src dn (by omega) (by have:=hG.n0;omega) (by have:=hG.n0;omega) data bi W
  rw [← a9] at ag;unfold J5 at ag;replace a9:=hid a9;replace aw:=hid aw;replace ag:=hid ag;go_wp2_with fail
  refine(ag.out _).mono ?_;rintro e w4⟨rfl,a8⟩;go_wp2_with fail
  obtain⟨W5,ai⟩:∃x,x=w4.alloc (.cells #[.int .i64 1,.int .i64 kind,.int .i64 src,.int .i64 dn,.int .u32 0,.int .u32 0,.int .u32 0,.int .u32 0,.string (bs data)] 182):=⟨_,rfl⟩;have ac:Below w3.heap.size w3 W5:=by rw [ai];exact zi a8 _
  have bp:Blk W5 w4.heap.size #[.int .i64 1,.int .i64 kind,.int .i64 src,.int .i64 dn,.int .u32 0,.int .u32 0,.int .u32 0,.int .u32 0,.string (bs data)] 182:=by rw [ai];exact Blk.new rfl
  have bv:ow2 2=[]:=bh;rw [← ai];clear ai c3;have aq:=(zl.loc B K tv lp _ t).cut ax ac;have a7:=be.call ac;have an:zt t ow w (ow2.cut w3) W5:=af.trans (zt.wrap ac (zt.refl _ _ _));have bt:(ow2.cut w3) 2=[]:=(Own.cut_old ay.lt).trans bv;have br:jK W5 a:=ay.below ac ay.lt;have a6:=aq.blk;obtain⟨b,bz,px,sb,lb,pb,av,b4⟩:=aq.node (i:=dn) (by have:=hG.n0;omega) (m:=zo S dn) (by rw [au];exact(hG.node bm).1);have bk:=aq.nodeCell bz;have ba:=λW hW=>Zq (px:=px) (sb:=sb) (lb:=lb) (pb:=pb) (av:=av) (n:=zo S dn) (B:=b) W hW
  have b1:=b4.blk;rw [au,hN] at a6;replace ba:=hid ba;have y0:(0:Int)<=(dn:Int):=by omega
  have y1:(dn:Int)<(N:Int):=by omega
  refine zd [O 0,O 1,O 2,O 3,O 4,O 5,O 6,O 7,O 8,O 9,O 10,E 11,O 12,O 13] none (λw'=>w'.cell? ⟨K.nb,dn,none⟩=some (.pointer (some ⟨b,0,none⟩))/\Blk w' B #[.slice (some ⟨K.nb,0,none⟩) N K.nc,.slice (some ⟨K.sb,0,none⟩) N N,.map (some K.lm),.pointer (some ⟨K.fb,0,none⟩),.map (some K.hm),.map (some K.dm),tv] 65/\Blk w' nb #[.int .u32 (id:Nat),.int .i64 (dn:Nat),.string (bs ae)] 178/\True) ⟨bk,a6.drew,a7.drew,trivial⟩ ?_
  refine Wi ?_
  refine zc rfl (λJ hJ=>?_);go_wp2_with fail
  refine(ba.out _ b1.drew).mono ?_;rintro e w6⟨rfl,rfl⟩;go_wp2;refine hJ.out _ _ (λ_=>⟨bk,a6.drew,a7.drew,trivial⟩) ?_;clear hJ J;have aa:=ah.out;rw [aw.out] at aa
  cases hdd:(zo S dn).down with
  |true=>
   rw [if_neg (by rw [hdd];simp)] at aa;replace aa:=hid aa
   refine Wi ?_
   refine ze ?_;go_wp2;go_ret
   exact⟨by rw [aa.out];rfl,_,an.trans (zt.drew _ _ _),by rw [aa.out];exact⟨tv,lp,(zl.loc B K tv lp _ t).below aq (zq (N2 _ _))⟩⟩
  |false=>
   rw [if_pos ⟨rfl,hdd⟩] at aa;simp only at aa;replace aa:=hid aa;have a4:=zer B K S1 bd hL t ht (ow2.cut w3) a dn src (by rw [au];exact bm) (by rw [au];exact bu) kind dn data bi (by unfold zo;rw [au];exact hdd) W5.drew ⟨tv,lp,(zl.loc B K tv lp _ t).below aq (zq (N2 _ _))⟩ br bt;unfold J5 at a4;replace a4:=hid a4;have c5:=a7.cell;have d5:=bp.cell;replace hdd:=hid hdd
   refine Wi ?_
   refine ze ?_;go_wp2_with fail
   refine a4.out.mono ?_;rintro e w7⟨rfl,b0,b2,bo⟩;go_wp2;go_ret
   exact⟨by rw [aa.out];rfl,b0,(an.trans (zt.drew _ _ _)).trans b2,by rw [aa.out];exact bo⟩
 have e2:=zfq hp
 have ah:xR S p=(S,2):=by
  unfold xR
  by_cases h0:p<0
  ·rw [if_pos h0]
  rw [if_neg h0,List.getElem?_eq_none (by omega)]
 rw [ah];rw [e2] at ad;unfold zi1 at ad;simp only at ad;replace ad:=hid ad;replace ah:=hid ah;clear hp
 go_enter func50,ntmps50
 go_wp2_with fail
 refine(ad.out _ _ hI.flight).mono ?_;rintro e w1⟨rfl,am,ak,bb⟩;have ar:=hI.setFlight ak bb;clear c0;go_wp2;go_ret
 exact⟨rfl,am,(ak.mono (Sub.child t 16)).trans (zt.of_below t am (zi (N2 _ _) _)),tv,lp,(zl.loc B K tv lp _ t).below ar (zi (N2 _ _) _)⟩
theorem zl.newLead {B:Nat}{K:WK}{tv:Value}{lp:Nat->Option Nat}{S:zf}{t:List Nat}{ow:Own}{W0 W:World}(h:zl B K tv lp S t ow W0)(hb:Below W0.heap.size W0 W){i lb:Nat}(hlb:W0.heap.size<=lb){l:j8}(hB:Blk W lb (zG (.slice none 0 0) l).toArray 175)(h1:l.promised.length=16)(h2:l.voted.length=16)(hp:l.promises=[])
 {ps:List (Int×Value)} {o:Obj} (hd:(ps.map (·.1)).Nodup) (hps:∀j:Nat,zE (j:Int) ps=(lp j).map λb=>.pointer (some ⟨b,0,none⟩)) (hM:z6 (W.putObj K.lm o) K.lm Vf (put (i:Int) (.pointer (some ⟨lb,0,none⟩)) ps)):
 ∃ow',zt t ow W0 ow' (W.putObj K.lm o)/\(∀k,W0.heap.size<=k->k≠lb->ow' k=[])/\zl B K tv (λj=>if j=i then some lb else lp j) {S with leads:=put (i:Int) l S.leads} t ow' (W.putObj K.lm o):=by
 obtain⟨af,ai, -,ag, -⟩:=h.leadsM;have ah:=ag.lt;have ae:(ow.ext W0.heap.size (λk=>k=lb) (t++ [i+32])) K.lm=t++ [17]:=(Own.ext_old ah).trans af;have ad:(ow.ext W0.heap.size (λk=>k=lb) (t++ [i+32])) lb=t++ [i+32]:=Own.ext_new hlb rfl;have aa:zl B K tv lp S t (ow.ext W0.heap.size (λk=>k=lb) (t++ [i+32])) W:=zl.loc B K tv lp S t _ _ _ _ h hb.size (λk hk _=>⟨Own.ext_old hk,hb.block k hk⟩);have ac:zt (t++ [17]) (ow.ext W0.heap.size (λk=>k=lb) (t++ [i+32])) W (ow.ext W0.heap.size (λk=>k=lb) (t++ [i+32])) (W.putObj K.lm o):=zt.putObj W K.lm o (by rw [ae];exact Sub.rfl' _);refine⟨ow.ext W0.heap.size (λk=>k=lb) (t++ [i+32]),⟨(Mod.of_below (λk=>Sub t (ow k)) hb).trans (Mod.putObj (X:=λk=>k=K.lm) W K.lm o rfl) (λ_ _ e=>e) (λk hk e=>by subst e;rw [af];exact Sub.child t 17),λk hk=>Own.ext_old hk⟩,λk h1 h2=>Own.ext_none h1 h2,?_⟩;refine⟨aa.blk.kept (ac.block aa.blk.lt (qU t 17 aa.own)),aa.own,λj=>?_⟩
 by_cases hj:j=17
 ·subst hj
  refine⟨ae,_,XZ _ _ hd,hM,λj=>?_⟩;rw [yE]
  by_cases hji:j=i
  ·subst hji;simp
  rw [if_neg (by omega),hps];simp only [if_neg hji]
 by_cases hji:j=i+32
 ·subst hji
  unfold xg;rw [if_neg (by omega),if_neg (by omega),if_neg (by omega),if_neg (by omega),if_neg (by omega),if_neg (by omega),if_neg (by omega),if_neg (by omega),if_neg (by omega),Nat.add_sub_cancel];simp only [if_true,yE];refine⟨h1,h2,.slice none 0 0,hB.kept (ac.block hB.lt (by rw [ad];exact JU t (i:=17) (j:=i+32) (by omega) rfl)),?_,ad,λg hg=>by cases hg⟩;rw [hp];exact z7 _ _ _
 have hw:xg B K tv (λj=>if j=i then some lb else lp j) {S with leads:=put (i:Int) l S.leads} t j=xg B K tv lp S t j:=by
  unfold xg;simp only [if_neg hj]
  by_cases hj32:j<32
  ·simp only [if_pos hj32]
  simp only [if_neg (show¬j - 32=i by omega),yE,if_neg (show¬((j - 32:Nat):Int)=(i:Int)by omega)]
 rw [hw];exact(ZX B K tv lp S t j).step (aa.part j) ac (zS t (Ne.symm hj))
def VX(inst ballot:Nat)(value:List UInt8):j8:={inst:=inst,ballot:=ballot,value:=value,promises:=[],promised:=List.replicate 16 false,voted:=List.replicate 16 false,votes:=0,asked:=false,told:=false}
theorem zcY(B:Nat)(K:WK)(S:zf){v:Int}{k0 L:Nat}(hG:zu v k0 L S)(hL:L<=3000000000)(t:List Nat)(ht:t≠ [])(ow:Own)(i:Nat)(hi:i<S.nodes.length)(herr:(zo S i).loc.fold.eras.length<=536870912)(w:World)(h:zI B K S t ow w):
 Calls prog 48 #[.pointer (some ⟨B,0,none⟩),.int .i64 i] w (xK B K (yw S i).1 t ow w (.int .i64 (yw S i).2)):=by
 obtain⟨tv,lp,hI⟩:=h;have ad:i<16:=by have:=hG.n0;omega
 obtain⟨b,a8,px,sb,ay,pb,av,hN⟩:=hI.node ad (m:=zo S i) (hG.node hi).1;have a5:=(hG.node hi).2;have bo:=hI.nodeCell a8;have ax:=hN.blk;have ae:=λW hW=>Zq (px:=px) (sb:=sb) (lb:=ay) (pb:=pb) (av:=av) (n:=zo S i) (B:=b) W hW
 have c0:=hI.blk.cell;obtain⟨bn,bm,bb⟩:=hI.srow;have g0:=bb.cellL (jD (hG.seat hi) (j:=0) (by decide));rw [Nat.add_zero] at g0;have y0:(0:Int)<=(i:Int):=by omega
 have y1:(i:Int)<(S.nodes.length:Int):=by omega
 have ah:=λW=>zjb (jo S i).greatest i ad W
 obtain⟨⟨nb,ne⟩,ag⟩:∃q,jB (jo S i).greatest i=q:=⟨_,rfl⟩;rw [ag] at ah;simp only at ah;replace ae:=hid ae;replace ah:=hid ah
 cases hdd:(zo S i).down with
 |true=>
  have aa:yw S i=(S,170):=by unfold yw;rw [if_pos hdd]
  rw [aa];rw [hdd] at ae;replace aa:=hid aa;replace hdd:=hid hdd
  go_enter func48,ntmps48
  go_wp2_with fail
  refine(ae.out _ ax).mono ?_;rintro e w1⟨rfl,rfl⟩;go_wp2;go_ret
  exact⟨rfl,ow,zt.refl _ _ _,tv,lp,hI⟩
 |false=>
  rw [hdd] at ae
  by_cases he:ne=0
  ·subst he
   obtain⟨⟨pv,bi⟩,ar⟩:∃q,jX (zo S i)=q:=⟨_,rfl⟩;have a4:=YD (zo S i)
   have aa:yw S i=(j9 {setSeat S i {jo S i with greatest:=nb} with leads:=put (i:Int) (VX (yM (zo S i)) nb pv) S.leads} 3 i (yM (zo S i)) nb [],0):=by
    unfold yw;rw [if_neg (by rw [hdd];simp),ag,if_neg (by simp),ar];rfl
   rw [aa];rw [ar] at a4;simp only at a4;have am:=λW hW=>YB (px:=px) (sb:=sb) (lb:=ay) (pb:=pb) (av:=av) b (zo S i) (t++ [i]) ow W hW herr
   have an:=λW hW=>zcs (px:=px) (sb:=sb) (lb:=ay) (pb:=pb) (av:=av) b (zo S i) (t++ [i]) (by simp) ow W hW a5.ok.bounds.2.2.1 a5.known
   rw [ar] at am;unfold okV at am;obtain⟨nx,ac⟩:∃n,yM (zo S i)=n:=⟨_,rfl⟩;rw [ac] at an;rw [ac];replace am:=hid am;replace an:=hid an;replace aa:=hid aa;replace hdd:=hid hdd;replace ac:=hid ac
   go_enter func48,ntmps48
   go_wp2_with fail
   refine(ae.out _ ax).mono ?_;rintro e w1⟨rfl,rfl⟩;go_wp2_with fail
   refine(ah.out _).mono ?_;rintro e w1⟨rfl,rfl⟩;go_wp2_with fail
   refine(am.out _ hN).mono ?_;rintro e w2⟨rfl,aq⟩;have a2:=(zl.loc B K tv lp S t).below hI aq;have c2:=a2.blk.cell;have bd:=a2.nodeCell a8;clear c0;go_wp2_with fail
   refine(an.out _ ((zy.loc _ _ _ _ _ _ _ _).below hN aq)).mono ?_;rintro e w3⟨rfl,bf⟩;have al:=zh aq bf;have ao:=(zl.loc B K tv lp S t).below hI al;clear c2 bd;have c3:=ao.blk.cell;have l3:=ao.blk.lt;obtain⟨bj,bk,au⟩:=ao.srow;have g3:=au.cellL (jD (hG.seat hi) (j:=0) (by decide));rw [Nat.add_zero] at g3;have f3:=au.frozen;have bl:=au.lt;obtain⟨ak,aw⟩:=ao.setSeat (v:=.int .u64 (nb:Nat)) (s':={jo S i with greatest:=nb}) (hG.seat hi) (j:=0) (by decide) rfl;simp only [Nat.add_zero] at ak aw;obtain⟨bp,ps,hd,az,ap⟩:=aw.leadsM;have a7:(w3.setCell ⟨K.sb,i*5,none⟩ (.int .u64 (nb:Nat))).heap.size=w3.heap.size:=by simp
   have a6:Below (w3.setCell ⟨K.sb,i*5,none⟩ (.int .u64 (nb:Nat))).heap.size (w3.setCell ⟨K.sb,i*5,none⟩ (.int .u64 (nb:Nat))) ((w3.setCell ⟨K.sb,i*5,none⟩ (.int .u64 (nb:Nat))).alloc (.cells #[.int .i64 (nx:Nat),.int .u64 (nb:Nat),.string (bs pv),.slice none 0 0,.bool false,.bool false,.bool false,.bool false,.bool false,.bool false,.bool false,.bool false,.bool false,.bool false,.bool false,.bool false,.bool false,.bool false,.bool false,.bool false,.bool false,.bool false,.bool false,.bool false,.bool false,.bool false,.bool false,.bool false,.bool false,.bool false,.bool false,.bool false,.bool false,.bool false,.bool false,.bool false,.int .i64 0,.bool false,.bool false] 175)):=zi (N2 _ _) _;have kl:Blk ((w3.setCell ⟨K.sb,i*5,none⟩ (.int .u64 (nb:Nat))).alloc (.cells #[.int .i64 (nx:Nat),.int .u64 (nb:Nat),.string (bs pv),.slice none 0 0,.bool false,.bool false,.bool false,.bool false,.bool false,.bool false,.bool false,.bool false,.bool false,.bool false,.bool false,.bool false,.bool false,.bool false,.bool false,.bool false,.bool false,.bool false,.bool false,.bool false,.bool false,.bool false,.bool false,.bool false,.bool false,.bool false,.bool false,.bool false,.bool false,.bool false,.bool false,.bool false,.int .i64 0,.bool false,.bool false] 175)) w3.heap.size (zG (.slice none 0 0) (VX nx nb pv)).toArray 175:=by rw [← a7];exact Blk.new rfl
   have ba:=az.kept (a6.block K.lm az.lt);obtain⟨o,bc,a1⟩:=ba.update zbf Tryz.underlying58 (i:Int) (.pointer (some ⟨w3.heap.size,0,none⟩));obtain⟨bh,af, -,a0⟩:=aw.newLead (i:=i) (lb:=w3.heap.size) a6 (by omega) kl (by simp [VX]) (by simp [VX]) rfl hd ap a1;unfold Vf at bc;have aj:=ak.mono (Sub.child t 21)|>.trans af
   have a3:=kl.putObj (show w3.heap.size≠K.lm from λe=>by have:=az.lt;rw [a7] at this;omega) o;replace af:=hid af;replace a1:=hid a1;replace ap:=hid ap;have m0:=a3.cellL (o:=0) (v:=.int .i64 (nx:Nat)) rfl;have m1:=a3.cellL (o:=1) (v:=.int .u64 (nb:Nat)) rfl;have ai:=ZY B K _ t ht bh 3 i (by omega) ad nx nb (.slice none 0 0) [] _ ⟨tv,_,a0⟩ (by have:=hG.room hL;exact⟨this.notes,this.last,this.n0⟩) ⟨rfl,.inl ⟨rfl,rfl⟩⟩ (by simp) (by simp) (λa l' c e=>by cases e);rw [show([]:List (List UInt8)).flatten=[] from rfl] at ai;unfold x4 at ai;replace ai:=hid ai;replace a0:=hid a0;go_wp2_with fail
   refine ai.out.mono ?_;rintro e w7⟨rfl,be,bg,a9⟩;go_wp2;go_ret
   exact⟨rfl,be,((zt.of_below t ow al).trans aj).trans bg,a9⟩
  have aa:yw S i=(S,ne):=by unfold yw;rw [if_neg (by rw [hdd];simp),ag,if_pos he]
  rw [aa];have t1:(ne !=0)=true:=by simpa using he
  replace aa:=hid aa;replace hdd:=hid hdd;clear he
  go_enter func48,ntmps48
  go_wp2_with fail
  refine(ae.out _ ax).mono ?_;rintro e w1⟨rfl,rfl⟩;go_wp2_with fail
  refine(ah.out _).mono ?_;rintro e w1⟨rfl,rfl⟩;go_wp2;go_ret
  exact⟨rfl,ow,zt.refl _ _ _,tv,lp,hI⟩
theorem zmJ:Yc prog 40 80 5 48 (.agg #[.int .i64 0,.int .i64 0,.int .i64 0,.int .u32 0,.string ⟨#[]⟩]):=⟨Tryz.underlying40,by kernel_rfl,rfl,by decide,by decide⟩
theorem ZZ(l:List xV):∀u∈l.flatMap jf,u.oneCell'=true:=by
 intro u hu;obtain⟨m,_,hm⟩:=List.mem_flatMap.1 hu;simp only [jf,List.mem_cons,List.mem_nil_iff,or_false] at hm
 rcases hm with rfl|rfl|rfl|rfl|rfl<;>rfl
theorem zl.setTrace {B:Nat}{K:WK}{tv tv':Value}{lp:Nat->Option Nat}{S:zf}{t:List Nat}{ow:Own}{W W7:World}(h:zl B K tv lp S t ow W){tr:List xV}
 (hrow:Row W7 80 5 tv' tr.length (tr.flatMap jf)) (hgr:W.grownBy W7 tv.ownBlock) (hown:tv'.ownBlock=tv.ownBlock∨tv'.ownBlock=some W.heap.size):
 ∃ow',zt t ow W ow' (W7.setCell ⟨B,6,none⟩ tv')/\(∀k,W.heap.size<=k->tv'.ownBlock≠some k->ow' k=[])/\zl B K tv' lp {S with trace:=tr} t ow' (W7.setCell ⟨B,6,none⟩ tv'):=by
 obtain⟨ad,hR⟩:=h.trow;have ac:∀g,tv.ownBlock=some g->g≠B:=λg hg=>hR.ne_blk h.blk (by decide) hg
 have lB:=h.blk.lt
 have af:∀g,tv'.ownBlock=some g->(tv.ownBlock=some g∨g=W.heap.size):=λg hg=>by
  rw [hg] at hown
  rcases hown with h|h
  ·exact .inl h.symm
  right;simpa using h
 have k7:=h.blk.kept (w':=W7) (hgr.block B lB (λe=>ac B e.symm rfl))
 have aa:∀g,tv'.ownBlock=some g->g≠B:=λg hg e=>by
  rcases af g hg with h1|h1
  ·exact ac g h1 e
  omega
 have ae:zt t ow W (ow.ext W.heap.size (λk=>tv'.ownBlock=some k) (t++ [22])) (W7.setCell ⟨B,6,none⟩ tv'):=
  ⟨(Mod.grown (X:=λk=>Sub t (ow k)) hgr (λk h=>by rw [ad k h];exact Sub.child t 22)).thenSet (p:=⟨B,6,none⟩) (by simp only [h.own];exact Sub.rfl' t) _,λk hk=>Own.ext_old hk⟩
 refine⟨ow.ext W.heap.size (λk=>tv'.ownBlock=some k) (t++ [22]),ae,λk h1 h2=>Own.ext_none h1 h2,k7.set tv',(Own.ext_old lB).trans h.own,λj=>?_⟩
 by_cases hj:j=22
 ·subst hj
  refine⟨λg hg=>?_,hrow.kept (λg hg=>N4 _ _ _ _ (λe=>aa g hg e))⟩
  rcases af g hg with h1|h1
  ·rw [Own.ext_old (hR.lt h1),ad g h1]
  rw [Own.ext_new (by omega) hg]
 have hw:xg B K tv' lp {S with trace:=tr} t j=xg B K tv lp S t j:=by
  unfold xg;simp only [if_neg hj]
 rw [hw];refine ZX B K tv lp S t j _ _ _ _ (h.part j) ae.size (λk hk hs=>⟨Own.ext_old hk,?_⟩);have ag:k≠B:=λe=>by rw [e,h.own] at hs;exact zU t j hs
 rw [N4 _ _ _ _ ag];refine hgr.block k hk (λe=>?_);rw [ad k e.symm] at hs;exact(zS t hj).1 hs
def Zw(S:zf)(kind at':Int)(told:Nat)(l:List zA)(i:Nat):zf:={S with trace:=S.trace++((l.drop told).take (i - told)).map λm=>(kind,at',m)}
theorem zes(S:zf)(kind at':Int)(told:Nat)(l:List zA):Zw S kind at' told l told=S:=by
 unfold Zw;simp
theorem zhd(S:zf)(kind at':Int)(told:Nat)(l:List zA){i:Nat}(hj:l.length<=i):Zw S kind at' told l i={S with trace:=S.trace++(l.drop told).map λm=>(kind,at',m)} :=by
 unfold Zw;rw [List.take_of_length_le (by rw [U3];omega)]
theorem zet(S:zf)(kind at':Int)(told:Nat)(l:List zA){i:Nat}(hi:told<=i){x:zA}(hx:l[i]?=some x):Zw S kind at' told l (i+1)={Zw S kind at' told l i with trace:=(Zw S kind at' told l i).trace++ [(kind,at',x)] } :=by
 unfold Zw;rw [show i+1 - told=(i - told)+1 by omega,List.take_add_one,List.getElem?_drop,show told+(i - told)=i by omega,hx];simp
theorem zhe(S:zf)(kind at':Int)(told:Nat)(l:List zA)(i:Nat):(Zw S kind at' told l i).trace.length<=S.trace.length+l.length:=by
 unfold Zw;simp only [N1,List.length_map,N7,U3];omega
theorem zkK(B:Nat)(K:WK)(S:zf)(t:List Nat)(ht:t≠ [])(ow:Own)(kind at':Int)(told:Nat)(l:List zA)(mv:Value)(w:World)(h:zI B K S t ow w)
 (hv:Src w mv 3 l.length (l.flatMap zg)) (hv0:∀a l c,mv=.slice (some a) l c->ow a.block=[]) (hl:S.trace.length+l.length<=1000000000) (htd:told<=1000000000):
 Calls prog 69 #[.pointer (some ⟨B,0,none⟩),.int .i64 kind,.int .i64 at',.int .i64 told,mv] w (xK B K {S with trace:=S.trace++(l.drop told).map λm=>(kind,at',m)} t ow w (.int .i64 (max told l.length:Nat))):=by
 obtain⟨va,vc,rfl⟩:∃a c,mv=.slice a l.length c:=by
  rcases hv.2 with⟨rfl,h0⟩|⟨b,ad,cap,rfl, -⟩
  ·exact⟨none,0,by rw [h0]⟩
  exact⟨_,_,rfl⟩
 have ao:∀a l' c,Value.slice va l.length vc=.slice (some a) l' c->¬Sub t (ow a.block):=λa l' c e=>by rw [hv0 a l' c e];exact zj ht
 replace hv:=hid hv;replace ao:=hid ao;clear hv0
 go_enter func69,ntmps69
 go_wp2
 go_loopw [3] (λp3 wr=>∃(i:Nat)(ow':Own),p3=.int .i64 (i:Nat)/\told<=i/\(i=told∨i<=l.length)/\zt t ow w ow' wr/\zI B K (Zw S kind at' told l i) t ow' wr) (λp3 _=>told+l.length - (intOf p3).toNat)
 case atStart=>exact⟨told,ow,rfl,N0 _,.inl rfl,zt.refl _ _ _,by rw [zes];exact h⟩
 case round=>
  obtain⟨i,ow',rfl,h1,h2,an,hW⟩:=hrel;clear h
  by_cases hjN:i<l.length
  ·have t2:decide ((i:Int)<(l.length:Int))=true:=by simpa using hjN
   have y0:(0:Int)<=(i:Int):=by omega
   have y1:(i:Int)<(l.length:Int):=by omega
   have a8:IntKind.i64.wrap ((i:Int)+1)=(i:Int)+1:=by rw [N8];omega
   obtain⟨⟨⟨xi,xc⟩,xd⟩,hx⟩:∃x,l[i]?=some x:=⟨_,N3 hjN⟩;have au:=hv.out.step an (λa l' c e=>ao.out a l' c e)
   obtain⟨b,ad,rfl⟩:∃b ad,va=some ⟨b,ad,none⟩:=by
    rcases au.2 with⟨-,h0⟩|⟨b,ad,cap,h0, -⟩
    ·omega
    cases h0;exact⟨_,_,rfl⟩
   obtain⟨c0,c1,c2⟩:=Zk au hx;simp only at c0 c1 c2;obtain⟨tv,lp,hI⟩:=hW;have ak:=zhe S kind at' told l i;have aa:=zet S kind at' told l h1 hx;obtain⟨S1,ay⟩:∃S1,Zw S kind at' told l i=S1:=⟨_,rfl⟩;rw [ay] at hI ak aa;have cB:wr.cell? ⟨B,6,none⟩=some tv:=hI.blk.cell 6;obtain⟨ax,hR⟩:=hI.trow;obtain⟨ta,tc,rfl⟩:=hR.wideV.shape;have lB:=hI.blk.lt;replace hx:=hid hx;replace ay:=hid ay;replace aa:=hid aa;replace au:=hid au;replace hR:=hid hR;replace ax:=hid ax;replace hI:=hid hI;have a1:=jO c0;go_wp2_with fail
   refine zd [O 0,O 1,O 2,O 3,O 4,O 5,O 6,O 7,O 8,O 9,O 10,E 11,E 12,E 13,O 14,O 15,E 16] (some 16) (λw'=>w'.cell? ⟨B,6,none⟩=some (.slice ta S1.trace.length tc)/\w'.cell? ⟨b,ad+i*3,none⟩=some (.int .i64 xi)/\w'.cell? ⟨b,ad+i*3+1,none⟩=some (.int .u32 xc)/\w'.cell? ⟨b,ad+i*3+2,none⟩=some (.string (bs xd))/\True) ⟨cB,c0,c1,c2,trivial⟩ ?_
   refine Ww ?_
   refine zc rfl (λJ hJ=>?_);go_wp2;refine hJ.out _ _ (λ_=>⟨cB,c0,c1,c2,trivial⟩) ?_;clear hJ J;refine zc rfl (λJ hJ=>?_);go_wp2;refine hJ.out _ _ (λ_=>⟨jI (w:=wr) cB _,jI (w:=wr) c0 _,jI (w:=wr) c1 _,jI (w:=wr) c2 _,trivial⟩) ?_;clear hJ J;obtain⟨W5,aw⟩:∃W5,W5=(wr.alloc (.cells #[.int .i64 kind,.int .i64 at',.int .i64 xi,.int .u32 xc,.string (bs xd)] 80)).drew:=⟨_,rfl⟩;have ai:Below wr.heap.size wr W5:=by rw [aw];exact zq (zi (N2 _ _) _)
   have k5:Blk W5 wr.heap.size #[.int .i64 kind,.int .i64 at',.int .i64 xi,.int .u32 xc,.string (bs xd)] 80:=by rw [aw];exact(Blk.new rfl).drew
   have al:Src W5 (.slice (some ⟨wr.heap.size,0,none⟩) 1 1) 5 [((kind,at',(xi,xc),xd):xV)].length ([((kind,at',(xi,xc),xd):xV)].flatMap jf):=jP (n:=1) (size:=5) (cap:=1) k5 rfl (N0 1);rw [← aw];clear aw;have ag:=(zl.loc B K _ lp _ t).cut hI.out ai;obtain⟨a5,W7,az,ah,aj,ae⟩:=zQ zmJ (hR.out.below ai) al (ZZ _) (by simp;omega) 40
   have ac:Row W7 80 5 a5 (S1.trace++ [(kind,at',(xi,xc),xd)]).length ((S1.trace++ [(kind,at',(xi,xc),xd)]).flatMap jf):=by
    rw [N1,U5];exact ah
   obtain⟨sa,sc,rfl⟩:=ac.wideV.shape;obtain⟨a0,ar,am,aq⟩:=ag.setTrace ac aj ae;simp only [N1,U2] at ar aq;have a2:W5.cell? ⟨B,6,none⟩=some (.slice ta S1.trace.length tc):=(ai.cell lB).trans cB;have k7:=ag.blk.kept (w':=W7) (aj.block B ag.blk.lt (λe=>(ag.trow.2).ne_blk ag.blk (by decide) e.symm rfl));have a3:W7.cell? ⟨B,6,none⟩=some (.slice ta S1.trace.length tc):=k7.cell 6;have a9:=k7.frozen;have a7:=k7.lt;have a4:=jO (Zk hv.out hx.out).1
   have af:∀g,(Value.slice ta S1.trace.length tc).ownBlock=some g->g≠b:=λg hg e=>ao.out ⟨b,ad,none⟩ _ _ rfl (by
    have h1:=ax.out g hg;rw [e,an.agree b a4] at h1
    show Sub t (ow b)
    rw [h1];exact Sub.child t 22)
   have ap:W7.heap[b]?=wr.heap[b]?:=(aj.block b (by have:=ai.size;have:=jO c0;simp at this;omega) (λe=>af b e.symm rfl)).trans (ai.block b (by have:=jO c0;simpa using this));have d0:=(World.cell?_of_block (w:=wr) (w':=W7) (a:=⟨b,ad+i*3,none⟩) ap).trans c0;have d1:=(World.cell?_of_block (w:=wr) (w':=W7) (a:=⟨b,ad+i*3+1,none⟩) ap).trans c1;have d2:=(World.cell?_of_block (w:=wr) (w':=W7) (a:=⟨b,ad+i*3+2,none⟩) ap).trans c2;replace ac:=hid ac;replace ah:=hid ah;replace aj:=hid aj;replace ae:=hid ae;replace ag:=hid ag;replace aq:=hid aq;replace ar:=hid ar;replace k7:=hid k7;replace af:=hid af;replace am:=hid am;clear c0 c1 c2 cB a2 ap a1;refine zc rfl (λJ hJ=>?_);refine zw rfl _ _ _ rfl rfl rfl az ?_;unfold wpList;refine hJ.out _ _ (λ_=>⟨a3,d0,d1,d2,trivial⟩) ?_;clear hJ J
   refine Ww ?_
   refine zc rfl (λJ hJ=>?_);go_wp2;refine hJ.out _ _ (λhh=>absurd rfl hh) ?_;clear hJ J;refine ze ?_;go_wp2
   go_roundw
   case rel=>exact⟨i+1,a0,by simp,by omega,by omega,an.trans (zt.wrap ai ar.out),by rw [aa.out];exact⟨_,_,aq.out⟩⟩
   case measure=>simp [intOf];omega
  have t2:decide ((i:Int)<(l.length:Int))=false:=by simpa using hjN
  have a6:max told l.length=i:=by omega
  go_wp2;go_ret
  exact⟨by rw [a6];rfl,ow',an,by rw [← zhd S kind at' told l (i:=i) (by omega)];exact hW⟩
