/- PARTS OF THE PROOF. -/
import Derived.Lib.AtoiAll
import Derived.Test.YtofppfoioodblaaGreatDoorDA29
set_option maxRecDepth 8000
set_option maxHeartbeats 4000000
open Go.Proofs.Tryz
namespace Go.Proofs.YtofppfoioodblaaGreatDoor
section
open Go Go.RowKit Go.Shelf Go.Extern.Stop Go.Stop Go.Extern
attribute [local go_sem] Oper.semAt_some zB zo
theorem zlR(n:Nat)(b:Bool)(x:Int)(w:World):(Instr.checkKey b (n+1) 35 (.int .u32 x)).run prog w=.ok () w:=by
 simp [Instr.checkKey,go_sem]
theorem zlS:qe prog 35 zhr where
 eq:=λk k' w=>by
  have h:(Op.equal 35 (zhr k) (zhr k')).run prog w=(Op.equalIn 10000 35 (.int .u32 k) (.int .u32 k')).run prog w:=rfl;rw [h];have h2:((k:Int)=(k':Int))=(k=k'):=by simp only [eq_iff_iff];omega
  simp [go_sem]
  by_cases h1:k=k'
  ·simp [h1]
  simp [h1,h2]
 chk:=λb k w=>zlR 9999 b k w
 bits:=λk=>by simp [zhr,Instr.sameBits]
 now:=⟨_,Tryz.underlying35,λk k'=>by
  by_cases h:k=k'
  ·right;subst h;simp [zhr,Instr.sameNow]
  right
  have h2:((k:Int)=(k':Int))=False:=by simp only [eq_iff_iff,iff_false];omega
  simp [zhr,Instr.sameNow,h,h2]⟩
theorem zk.setHurt {B:Nat}{K:WK}{tv:Value}{lp:Nat->Option Nat}{S:zf}{t:List Nat}{ow:Own}{W:World}(h:zk B K tv lp S t ow W){o:Obj}{hu:List (Nat×Unit)}(hM:zZ (W.putObj K.hm o) K.hm zhr (hu.map λq=>(q.1,Jy))):
 zp (t++ [18]) ow W ow (W.putObj K.hm o)/\zk B K tv lp {S with hurt:=hu} t ow (W.putObj K.hm o):=by
 obtain⟨ho, -⟩:=h.hurtM;have aa:zp (t++ [18]) ow W ow (W.putObj K.hm o):=zp.putObj W K.hm o (by rw [ho];exact Sub.rfl' _);refine⟨aa,h.setPart 18 aa rfl (λj' hj'=>?_) ⟨ho,hM⟩⟩;unfold xW;simp only [if_neg hj']
theorem zkJ {S:zf}{p:Int}{x:zgg}(h0:0<=p)(hx:S.notes[p.toNat]?=some x):zmu S p=(x.1,true)/\zbw S.notes p=(S.notes.eraseIdx p.toNat,x,0):=by
 unfold zmu zbw;rw [if_neg (by omega),if_neg (by omega),hx];exact⟨rfl,rfl⟩
theorem Zx {px sb lb pb:Nat}{av:Value}{n:zq}{B:Nat}(w:World)(hB:Blk w B (zD px sb lb pb av n) 98):Calls prog 66 #[.pointer (some ⟨B,0,none⟩)] w λe w'=>e=.returned (.bool n.down)/\w'=w:=by
 have hr:=xu w hB;unfold Yp at hr;replace hr:=hid hr
 cases hd:n.down
 all_goals
  rw [hd] at hr;replace hd:=hid hd;replace hB:=hid hB
  go_enter func66,ntmps66
  go_wp2_with fail
  refine hr.out.mono ?_;rintro e w1⟨rfl,rfl⟩;go_wp2;go_ret
  exact⟨rfl,rfl⟩
theorem zjg(B:Nat)(K:WK)(S:zf){v:Int}{k0 L:Nat}(hG:zr v k0 L S)(hL:L<=3000000000)(t:List Nat)(ht:t≠ [])(ow:Own)(a:Addr)(p:Int)(w:World)(h:zK B K S t ow w)
 (he:jv w a) (hge:ow 2=[]):
 Calls prog 50 #[.pointer (some ⟨B,0,none⟩),.int .i64 p] w (qK B K (xL S p).1 t ow w (.int .i64 (xL S p).2)):=by
 obtain⟨tv,lp,hI⟩:=h;have ac:=λW ow hW=>zgW K.fb S.last S.notes (t++ [16]) ow p W hW hG.notesN
 have c0:=hI.blk.cell
 by_cases hp:0<=p/\p<S.notes.length
 ·obtain⟨⟨id,dst,ad⟩,hx⟩:∃x,S.notes[p.toNat]?=some x:=⟨_,N3 (by omega)⟩
  obtain⟨-,e2⟩:=zkJ hp.1 hx;have a6:=hG.notes _ (List.mem_of_getElem? hx);have bf:=hG.erase hx;obtain⟨dn,rfl⟩:∃n:Nat,dst=n:=⟨dst.toNat,by have:=a6.dst.1;simp only at this;omega⟩;have bm:dn<S.nodes.length:=by have:=a6.dst.2;simp only at this;omega
  have af:xL S p=if(zgf ad).2=0/\(zn S dn).down=false then(yG {S with notes:=S.notes.eraseIdx p.toNat,hurt:=del id S.hurt} dn (zgf ad).1,0)else({S with notes:=S.notes.eraseIdx p.toNat,hurt:=del id S.hurt},0):=by
   unfold xL;rw [if_neg (by omega),hx];rfl
  obtain⟨S1,bb⟩:∃S1,({S with notes:=S.notes.eraseIdx p.toNat,hurt:=del id S.hurt} :zf)=S1:=⟨_,rfl⟩;rw [e2] at ac;unfold zi3 at ac;simp only at ac bf;rw [bb] at af bf;have au:S1.nodes=S.nodes:=by rw [← bb]
  obtain⟨R,hR⟩:∃R,xL S p=R:=⟨_,rfl⟩;rw [hR] at af⊢;clear hR;replace af:=hid af;replace ac:=hid ac;clear hp
  go_enter func50,ntmps50
  go_wp2_with fail
  refine(ac.out _ _ hI.flight).mono ?_;rintro e w1⟨rfl,al,ak,a9⟩;have aw:=hI.setFlight ak a9;clear c0
  try simp only at aw
  go_wp2_with fail
  obtain⟨W2,ay⟩:∃W2,W2=w1.alloc (.cells #[.int .u32 (id:Nat),.int .i64 (dn:Nat),.string (bs ad)] 178):=⟨_,rfl⟩;have aj:Below w1.heap.size w1 W2:=by rw [ay];exact zi (N2 _ _) _
  have a2:Blk W2 w1.heap.size #[.int .u32 (id:Nat),.int .i64 (dn:Nat),.string (bs ad)] 178:=by rw [ay];exact Blk.new rfl
  have ax:=(zk.loc B K tv lp _ t).cut aw aj;have b3:(al.cut w1) w1.heap.size=[]:=Own.cut_new (N0 _);have ap:zp t ow w (al.cut w1) W2:=(ak.mono (Sub.child t 16)).trans (zp.wrap aj (zp.refl _ _ _));have bk:(al.cut w1) 2=[]:=(Own.cut_old (Nat.lt_of_lt_of_le he.lt ak.size)).trans ((ak.agree _ he.lt).trans hge);have a7:jv W2 a:=(ap.cell (p:=⟨2,0,none⟩) he.lt (by show¬Sub _ (ow 2);rw [hge];exact zj ht)).trans he;rw [← ay];clear ay aj aw
  generalize al.cut w1=ow2 at*
  generalize w1.heap.size=nb at*
  have a3:=ax.blk;obtain⟨br,bi⟩:=ax.hurtM;obtain⟨o,ai,a4⟩:=(bi.kept (w':=W2.drew) rfl).delete zlS Tryz.underlying61 #[61,35] 0 rfl id;have a4:zZ (W2.drew.putObj K.hm o) K.hm zhr ((del id S.hurt).map λq=>(q.1,Jy)):=by have h3:=zaL (λ_:Unit=>Jy) id S.hurt;rw [← h3];exact a4
  have bl:=(zk.loc B K tv lp _ t).below ax (zm (N2 _ _));obtain⟨a0,ar⟩:=bl.setHurt a4;unfold zhr at ai
  try simp only at a3 ar
  rw [show({nodes:=S.nodes,seats:=S.seats,leads:=S.leads,last:=S.last,notes:=S.notes.eraseIdx p.toNat,hurt:=del id S.hurt,trace:=S.trace} :zf)=S1 from bb] at ar;have ae:=ap.trans ((zp.of_below t _ (zm (N2 _ _))).trans (a0.mono (Sub.child t 18)));have be:=a2.drew.kept (a0.block a2.drew.lt (by rw [b3];exact zj (by simp)));have az:jv (W2.drew.putObj K.hm o) a:=(a0.cell (p:=⟨2,0,none⟩) a7.lt (by show¬Sub _ (ow2 2);rw [bk];exact zj (by simp))).trans a7;obtain⟨N,hN⟩:∃N,S.nodes.length=N:=⟨_,rfl⟩;simp only [hN] at a3;refine zd [O 0,O 1,O 2,O 3,O 4,O 5,E 6] (some 6) (λw'=>Blk w' B #[.slice (some ⟨K.nb,0,none⟩) N K.nc,.slice (some ⟨K.sb,0,none⟩) N N,.map (some K.lm),.pointer (some ⟨K.fb,0,none⟩),.map (some K.hm),.map (some K.dm),tv] 65/\Blk w' nb #[.int .u32 (id:Nat),.int .i64 (dn:Nat),.string (bs ad)] 178/\True) (by kernel_rfl) (by kernel_rfl) ⟨a3.drew,a2.drew,trivial⟩ ?_
  refine We ?_
  refine zc rfl (λJ hJ=>?_);refine xG rfl _ _ _ _ rfl rfl rfl ai ?_;unfold wpList;refine hJ.out _ _ (λhh=>absurd rfl hh) ?_;clear hJ J;refine zg ?_;have ae:zp t ow w ow2 (W2.drew.putObj K.hm o):=ae;obtain⟨w3,bg⟩:∃x,x=W2.drew.putObj K.hm o:=⟨_,rfl⟩;rw [← bg] at ae ar be az⊢;clear bg a0 a4 ai bi br bl a3 a2 ax a7;have c3:=be.cell;have an:ZH ad=none/\ad.length<=5000∨qD S.nodes.length (dn:Int) ad:=a6.form
  rcases an with⟨hop,bu⟩|hlet
  ·have ag:=λW=>zg3 ad (by omega) hop W
   have ao:(zgf ad).2=21:=by unfold zgf;rw [hop]
   have aa:=af.out;rw [ao,if_neg (by simp)] at aa;have q1:R.1=S1:=by rw [aa]
   have q2:R.2=0:=by rw [aa]
   clear aa;replace q1:=hid q1;replace q2:=hid q2;unfold zmW at ag;replace ag:=hid ag;go_wp2_with fail
   refine(ag.out _).mono ?_;rintro e w4⟨rfl,a5⟩;go_wp2_with fail
   obtain⟨W5,ah⟩:∃x,x=w4.alloc (.cells #[.int .i64 0,.int .i64 0,.int .i64 0,.int .i64 0,.int .u32 0,.int .u32 0,.int .u32 0,.int .u32 0,.string ⟨#[]⟩] 182):=⟨_,rfl⟩;have ab:Below w3.heap.size w3 W5:=by rw [ah];exact zi a5 _
   rw [← ah];clear ah;refine zd [O 0,O 1,O 2,O 3,O 4,O 5,O 6,O 7,O 8,O 9,O 10,E 11,O 12,O 13] none (λ_=>True) (by kernel_rfl) (by kernel_rfl) trivial ?_
   refine We ?_
   refine Wm ?_
   refine zc rfl (λJ hJ=>?_);go_wp2;refine hJ.out _ _ (λ_=>trivial) ?_;clear hJ J
   refine Wm ?_
   refine We ?_
   refine zg ?_;go_wp2;go_ret
   exact⟨by rw [q2.out];rfl,_,ae.trans (zp.wrap (zm ab) (zp.refl _ _ _)),by rw [q1.out];exact⟨tv,lp,(zk.loc B K tv lp _ t).cut ar (zm ab)⟩⟩
  obtain⟨bu, -,kind,src,data,b4,bq,bh,ao,ba⟩:=hlet.dec hG.n0.2 ⟨by omega,by omega⟩
  have ag:=λW=>zg2 kind src dn (by omega) (by have:=hG.n0;omega) (by have:=hG.n0;omega) data bh W
  rw [← ba] at ag;unfold J9 at ag;replace ba:=hid ba;replace ao:=hid ao;replace ag:=hid ag;go_wp2_with fail
  refine(ag.out _).mono ?_;rintro e w4⟨rfl,a5⟩;go_wp2_with fail
  obtain⟨W5,ah⟩:∃x,x=w4.alloc (.cells #[.int .i64 1,.int .i64 kind,.int .i64 src,.int .i64 dn,.int .u32 0,.int .u32 0,.int .u32 0,.int .u32 0,.string (bs data)] 182):=⟨_,rfl⟩;have ab:Below w3.heap.size w3 W5:=by rw [ah];exact zi a5 _
  have bt:Blk W5 w4.heap.size #[.int .i64 1,.int .i64 kind,.int .i64 src,.int .i64 dn,.int .u32 0,.int .u32 0,.int .u32 0,.int .u32 0,.string (bs data)] 182:=by rw [ah];exact Blk.new rfl
  have bo:ow2 2=[]:=bk;rw [← ah];clear ah c3;have aq:=(zk.loc B K tv lp _ t).cut ar ab;have a8:=be.call ab;have am:zp t ow w (ow2.cut w3) W5:=ae.trans (zp.wrap ab (zp.refl _ _ _));have bv:(ow2.cut w3) 2=[]:=(Own.cut_old az.lt).trans bo;have b1:jv W5 a:=az.below ab az.lt;have bd:=aq.blk;obtain⟨b,bn,px,sb,lb,pb,av,b2⟩:=aq.node (i:=dn) (by have:=hG.n0;omega) (m:=zn S dn) (by rw [au];exact(hG.node bm).1);have bj:=aq.nodeCell bn;have bc:=λW hW=>Zx (px:=px) (sb:=sb) (lb:=lb) (pb:=pb) (av:=av) (n:=zn S dn) (B:=b) W hW
  have bz:=b2.blk;rw [au,hN] at bd;replace bc:=hid bc;have y0:(0:Int)<=(dn:Int):=by omega
  have y1:(dn:Int)<(N:Int):=by omega
  refine zd [O 0,O 1,O 2,O 3,O 4,O 5,O 6,O 7,O 8,O 9,O 10,E 11,O 12,O 13] none (λw'=>w'.cell? ⟨K.nb,dn,none⟩=some (.pointer (some ⟨b,0,none⟩))/\Blk w' B #[.slice (some ⟨K.nb,0,none⟩) N K.nc,.slice (some ⟨K.sb,0,none⟩) N N,.map (some K.lm),.pointer (some ⟨K.fb,0,none⟩),.map (some K.hm),.map (some K.dm),tv] 65/\Blk w' nb #[.int .u32 (id:Nat),.int .i64 (dn:Nat),.string (bs ad)] 178/\True) (by kernel_rfl) (by kernel_rfl) ⟨bj,bd.drew,a8.drew,trivial⟩ ?_
  refine Wg ?_
  refine zc rfl (λJ hJ=>?_);go_wp2_with fail
  refine(bc.out _ bz.drew).mono ?_;rintro e w6⟨rfl,rfl⟩;go_wp2;refine hJ.out _ _ (λ_=>⟨bj,bd.drew,a8.drew,trivial⟩) ?_;clear hJ J;have aa:=af.out;rw [ao.out] at aa
  cases hdd:(zn S dn).down with
  |true=>
   rw [if_neg (by rw [hdd];simp)] at aa;replace aa:=hid aa
   refine Wg ?_
   refine zg ?_;go_wp2;go_ret
   exact⟨by rw [aa.out];rfl,_,am.trans (zp.drew _ _ _),by rw [aa.out];exact⟨tv,lp,(zk.loc B K tv lp _ t).below aq (zm (N2 _ _))⟩⟩
  |false=>
   rw [if_pos ⟨rfl,hdd⟩] at aa;simp only at aa;replace aa:=hid aa;have a1:=zeG B K S1 bf hL t ht (ow2.cut w3) a dn src (by rw [au];exact bm) (by rw [au];exact bq) kind dn data bh (by unfold zn;rw [au];exact hdd) W5.drew ⟨tv,lp,(zk.loc B K tv lp _ t).below aq (zm (N2 _ _))⟩ b1 bv;unfold J9 at a1;replace a1:=hid a1;have c5:=a8.cell;have d5:=bt.cell;replace hdd:=hid hdd
   refine Wg ?_
   refine zg ?_;go_wp2_with fail
   refine a1.out.mono ?_;rintro e w7⟨rfl,b0,bp,bw⟩;go_wp2;go_ret
   exact⟨by rw [aa.out];rfl,b0,(am.trans (zp.drew _ _ _)).trans bp,by rw [aa.out];exact bw⟩
 have e2:=zfs hp
 have af:xL S p=(S,2):=by
  unfold xL
  by_cases h0:p<0
  ·rw [if_pos h0]
  rw [if_neg h0,List.getElem?_eq_none (by omega)]
 rw [af];rw [e2] at ac;unfold zi3 at ac;simp only at ac;replace ac:=hid ac;replace af:=hid af;clear hp
 go_enter func50,ntmps50
 go_wp2_with fail
 refine(ac.out _ _ hI.flight).mono ?_;rintro e w1⟨rfl,al,ak,a9⟩;have aw:=hI.setFlight ak a9;clear c0;go_wp2;go_ret
 exact⟨rfl,al,(ak.mono (Sub.child t 16)).trans (zp.of_below t al (zi (N2 _ _) _)),tv,lp,(zk.loc B K tv lp _ t).below aw (zi (N2 _ _) _)⟩
theorem zk.newLead {B:Nat}{K:WK}{tv:Value}{lp:Nat->Option Nat}{S:zf}{t:List Nat}{ow:Own}{W0 W:World}(h:zk B K tv lp S t ow W0)(hb:Below W0.heap.size W0 W){i lb:Nat}(hlb:W0.heap.size<=lb){l:ye}(hB:Blk W lb (zE (.slice none 0 0) l).toArray 175)(h1:l.promised.length=16)(h2:l.voted.length=16)(hp:l.promises=[])
 {ps:List (Int×Value)} {o:Obj} (hd:(ps.map (·.1)).Nodup) (hps:∀j:Nat,zH (j:Int) ps=(lp j).map λb=>.pointer (some ⟨b,0,none⟩)) (hM:zZ (W.putObj K.lm o) K.lm QM (put (i:Int) (.pointer (some ⟨lb,0,none⟩)) ps)):
 ∃ow',zp t ow W0 ow' (W.putObj K.lm o)/\(∀k,W0.heap.size<=k->k≠lb->ow' k=[])/\zk B K tv (λj=>if j=i then some lb else lp j) {S with leads:=put (i:Int) l S.leads} t ow' (W.putObj K.lm o):=by
 obtain⟨ae,ah, -,ag, -⟩:=h.leadsM;have af:=ag.lt;have ac:(ow.ext W0.heap.size (λk=>k=lb) (t++ [i+32])) K.lm=t++ [17]:=(Own.ext_old af).trans ae;have ad:(ow.ext W0.heap.size (λk=>k=lb) (t++ [i+32])) lb=t++ [i+32]:=Own.ext_new hlb rfl;have aa:zk B K tv lp S t (ow.ext W0.heap.size (λk=>k=lb) (t++ [i+32])) W:=zk.loc B K tv lp S t _ _ _ _ h hb.size (λk hk _=>⟨Own.ext_old hk,hb.block k hk⟩);have ab:zp (t++ [17]) (ow.ext W0.heap.size (λk=>k=lb) (t++ [i+32])) W (ow.ext W0.heap.size (λk=>k=lb) (t++ [i+32])) (W.putObj K.lm o):=zp.putObj W K.lm o (by rw [ac];exact Sub.rfl' _);refine⟨ow.ext W0.heap.size (λk=>k=lb) (t++ [i+32]),⟨(Mod.of_below (λk=>Sub t (ow k)) hb).trans (Mod.putObj (X:=λk=>k=K.lm) W K.lm o rfl) (λ_ _ e=>e) (λk hk e=>by subst e;rw [ae];exact Sub.child t 17),λk hk=>Own.ext_old hk⟩,λk h1 h2=>Own.ext_none h1 h2,?_⟩;refine⟨aa.blk.kept (ab.block aa.blk.lt (Z6 t 17 aa.own)),aa.own,λj=>?_⟩
 by_cases hj:j=17
 ·subst hj
  refine⟨ac,_,X9 _ _ hd,hM,λj=>?_⟩;rw [yF]
  by_cases hji:j=i
  ·subst hji;simp
  rw [if_neg (by omega),hps];simp only [if_neg hji]
 by_cases hji:j=i+32
 ·subst hji
  unfold xW;rw [if_neg (by omega),if_neg (by omega),if_neg (by omega),if_neg (by omega),if_neg (by omega),if_neg (by omega),if_neg (by omega),if_neg (by omega),if_neg (by omega),Nat.add_sub_cancel];simp only [if_true,yF];refine⟨h1,h2,.slice none 0 0,hB.kept (ab.block hB.lt (by rw [ad];exact J1 t (i:=17) (j:=i+32) (by omega) rfl)),?_,ad,λg hg=>by cases hg⟩;rw [hp];exact jc _ _ _
 have hw:xW B K tv (λj=>if j=i then some lb else lp j) {S with leads:=put (i:Int) l S.leads} t j=xW B K tv lp S t j:=by
  unfold xW;simp only [if_neg hj]
  by_cases hj32:j<32
  ·simp only [if_pos hj32]
  simp only [if_neg (show¬j - 32=i by omega),yF,if_neg (show¬((j - 32:Nat):Int)=(i:Int)by omega)]
 rw [hw];exact(YU B K tv lp S t j).step (aa.part j) ab (zR t (Ne.symm hj))
def V8(inst ballot:Nat)(value:List UInt8):ye:={inst:=inst,ballot:=ballot,value:=value,promises:=[],promised:=List.replicate 16 false,voted:=List.replicate 16 false,votes:=0,asked:=false,told:=false}
theorem zdg(B:Nat)(K:WK)(S:zf){v:Int}{k0 L:Nat}(hG:zr v k0 L S)(hL:L<=3000000000)(t:List Nat)(ht:t≠ [])(ow:Own)(i:Nat)(hi:i<S.nodes.length)(herr:(zn S i).loc.fold.eras.length<=536870912)(w:World)(h:zK B K S t ow w):
 Calls prog 48 #[.pointer (some ⟨B,0,none⟩),.int .i64 i] w (qK B K (yo S i).1 t ow w (.int .i64 (yo S i).2)):=by
 obtain⟨tv,lp,hI⟩:=h;have ac:i<16:=by have:=hG.n0;omega
 obtain⟨b,a1,px,sb,au,pb,av,hN⟩:=hI.node ac (m:=zn S i) (hG.node hi).1;have a6:=(hG.node hi).2;have bl:=hI.nodeCell a1;have ax:=hN.blk;have ae:=λW hW=>Zx (px:=px) (sb:=sb) (lb:=au) (pb:=pb) (av:=av) (n:=zn S i) (B:=b) W hW
 have c0:=hI.blk.cell;obtain⟨bm,bj,bc⟩:=hI.srow;have g0:=bc.cellL (jC (hG.seat hi) (j:=0) (by decide));rw [Nat.add_zero] at g0;have y0:(0:Int)<=(i:Int):=by omega
 have y1:(i:Int)<(S.nodes.length:Int):=by omega
 have ag:=λW=>zje (jj S i).greatest i ac W
 obtain⟨⟨nb,ne⟩,ad⟩:∃q,jt (jj S i).greatest i=q:=⟨_,rfl⟩;rw [ad] at ag;simp only at ag;replace ae:=hid ae;replace ag:=hid ag
 cases hdd:(zn S i).down with
 |true=>
  have aa:yo S i=(S,170):=by unfold yo;rw [if_pos hdd]
  rw [aa];rw [hdd] at ae;replace aa:=hid aa;replace hdd:=hid hdd
  go_enter func48,ntmps48
  go_wp2_with fail
  refine(ae.out _ ax).mono ?_;rintro e w1⟨rfl,rfl⟩;go_wp2;go_ret
  exact⟨rfl,ow,zp.refl _ _ _,tv,lp,hI⟩
 |false=>
  rw [hdd] at ae
  by_cases he:ne=0
  ·subst he
   obtain⟨⟨pv,bn⟩,ay⟩:∃q,jN (zn S i)=q:=⟨_,rfl⟩;have a2:=YP (zn S i)
   have aa:yo S i=(j1 {setSeat S i {jj S i with greatest:=nb} with leads:=put (i:Int) (V8 (yE (zn S i)) nb pv) S.leads} 3 i (yE (zn S i)) nb [],0):=by
    unfold yo;rw [if_neg (by rw [hdd];simp),ad,if_neg (by simp),ay];rfl
   rw [aa];rw [ay] at a2;simp only at a2;have ak:=λW hW=>YM (px:=px) (sb:=sb) (lb:=au) (pb:=pb) (av:=av) b (zn S i) (t++ [i]) ow W hW herr
   have am:=λW hW=>zcU (px:=px) (sb:=sb) (lb:=au) (pb:=pb) (av:=av) b (zn S i) (t++ [i]) (by simp) ow W hW a6.ok.bounds.2.2.1 a6.known
   rw [ay] at ak;unfold okV at ak;obtain⟨nx,ab⟩:∃n,yE (zn S i)=n:=⟨_,rfl⟩;rw [ab] at am;rw [ab];replace ak:=hid ak;replace am:=hid am;replace aa:=hid aa;replace hdd:=hid hdd;replace ab:=hid ab
   go_enter func48,ntmps48
   go_wp2_with fail
   refine(ae.out _ ax).mono ?_;rintro e w1⟨rfl,rfl⟩;go_wp2_with fail
   refine(ag.out _).mono ?_;rintro e w1⟨rfl,rfl⟩;go_wp2_with fail
   refine(ak.out _ hN).mono ?_;rintro e w2⟨rfl,ao⟩;have a4:=(zk.loc B K tv lp S t).below hI ao;have c2:=a4.blk.cell;have a8:=a4.nodeCell a1;clear c0;go_wp2_with fail
   refine(am.out _ ((zw.loc _ _ _ _ _ _ _ _).below hN ao)).mono ?_;rintro e w3⟨rfl,bg⟩;have al:=ze ao bg;have an:=(zk.loc B K tv lp S t).below hI al;clear c2 a8;have c3:=an.blk.cell;have l3:=an.blk.lt;obtain⟨bh,bo,aq⟩:=an.srow;have g3:=aq.cellL (jC (hG.seat hi) (j:=0) (by decide));rw [Nat.add_zero] at g3;have f3:=aq.frozen;have bi:=aq.lt;obtain⟨ah,ar⟩:=an.setSeat (v:=.int .u64 (nb:Nat)) (s':={jj S i with greatest:=nb}) (hG.seat hi) (j:=0) (by decide) rfl;simp only [Nat.add_zero] at ah ar;obtain⟨bk,ps,hd,az,aw⟩:=ar.leadsM;have a7:(w3.setCell ⟨K.sb,i*5,none⟩ (.int .u64 (nb:Nat))).heap.size=w3.heap.size:=by simp
   have a5:Below (w3.setCell ⟨K.sb,i*5,none⟩ (.int .u64 (nb:Nat))).heap.size (w3.setCell ⟨K.sb,i*5,none⟩ (.int .u64 (nb:Nat))) ((w3.setCell ⟨K.sb,i*5,none⟩ (.int .u64 (nb:Nat))).alloc (.cells #[.int .i64 (nx:Nat),.int .u64 (nb:Nat),.string (bs pv),.slice none 0 0,.bool false,.bool false,.bool false,.bool false,.bool false,.bool false,.bool false,.bool false,.bool false,.bool false,.bool false,.bool false,.bool false,.bool false,.bool false,.bool false,.bool false,.bool false,.bool false,.bool false,.bool false,.bool false,.bool false,.bool false,.bool false,.bool false,.bool false,.bool false,.bool false,.bool false,.bool false,.bool false,.int .i64 0,.bool false,.bool false] 175)):=zi (N2 _ _) _;have kl:Blk ((w3.setCell ⟨K.sb,i*5,none⟩ (.int .u64 (nb:Nat))).alloc (.cells #[.int .i64 (nx:Nat),.int .u64 (nb:Nat),.string (bs pv),.slice none 0 0,.bool false,.bool false,.bool false,.bool false,.bool false,.bool false,.bool false,.bool false,.bool false,.bool false,.bool false,.bool false,.bool false,.bool false,.bool false,.bool false,.bool false,.bool false,.bool false,.bool false,.bool false,.bool false,.bool false,.bool false,.bool false,.bool false,.bool false,.bool false,.bool false,.bool false,.bool false,.bool false,.int .i64 0,.bool false,.bool false] 175)) w3.heap.size (zE (.slice none 0 0) (V8 nx nb pv)).toArray 175:=by rw [← a7];exact Blk.new rfl
   have a9:=az.kept (a5.block K.lm az.lt);obtain⟨o,bb,ap⟩:=a9.update zjd Tryz.underlying58 (i:Int) (.pointer (some ⟨w3.heap.size,0,none⟩));obtain⟨bd,af, -,a0⟩:=ar.newLead (i:=i) (lb:=w3.heap.size) a5 (by omega) kl (by simp [V8]) (by simp [V8]) rfl hd aw ap;unfold QM at bb;have ai:=ah.mono (Sub.child t 21)|>.trans af
   have a3:=kl.putObj (show w3.heap.size≠K.lm from λe=>by have:=az.lt;rw [a7] at this;omega) o;replace af:=hid af;replace ap:=hid ap;replace aw:=hid aw;have m0:=a3.cellL (o:=0) (v:=.int .i64 (nx:Nat)) rfl;have m1:=a3.cellL (o:=1) (v:=.int .u64 (nb:Nat)) rfl;have aj:=Z9 B K _ t ht bd 3 i (by omega) ac nx nb (.slice none 0 0) [] _ ⟨tv,_,a0⟩ (by have:=hG.room hL;exact⟨this.notes,this.last,this.n0⟩) ⟨rfl,.inl ⟨rfl,rfl⟩⟩ (by simp) (by simp) (λa l' c e=>by cases e);rw [show([]:List (List UInt8)).flatten=[] from rfl] at aj;unfold xX at aj;replace aj:=hid aj;replace a0:=hid a0;go_wp2_with fail
   refine aj.out.mono ?_;rintro e w7⟨rfl,bf,ba,be⟩;go_wp2;go_ret
   exact⟨rfl,bf,((zp.of_below t ow al).trans ai).trans ba,be⟩
  have aa:yo S i=(S,ne):=by unfold yo;rw [if_neg (by rw [hdd];simp),ad,if_pos he]
  rw [aa];have t1:(ne !=0)=true:=by simpa using he
  replace aa:=hid aa;replace hdd:=hid hdd;clear he
  go_enter func48,ntmps48
  go_wp2_with fail
  refine(ae.out _ ax).mono ?_;rintro e w1⟨rfl,rfl⟩;go_wp2_with fail
  refine(ag.out _).mono ?_;rintro e w1⟨rfl,rfl⟩;go_wp2;go_ret
  exact⟨rfl,ow,zp.refl _ _ _,tv,lp,hI⟩
theorem znc:Yf prog 40 80 5 48 (.agg #[.int .i64 0,.int .i64 0,.int .i64 0,.int .u32 0,.string ⟨#[]⟩]):=⟨Tryz.underlying40,by kernel_rfl,rfl,by decide,by decide⟩
theorem VU(l:List Yv):∀u∈l.flatMap xV,u.oneCell'=true:=by
 intro u hu;obtain⟨m,_,hm⟩:=List.mem_flatMap.1 hu;simp only [xV,List.mem_cons,List.mem_nil_iff,or_false] at hm
 rcases hm with rfl|rfl|rfl|rfl|rfl<;>rfl
theorem zk.setTrace {B:Nat}{K:WK}{tv tv':Value}{lp:Nat->Option Nat}{S:zf}{t:List Nat}{ow:Own}{W W7:World}(h:zk B K tv lp S t ow W){tr:List Yv}
 (hrow:Row W7 80 5 tv' tr.length (tr.flatMap xV)) (hgr:W.grownBy W7 tv.ownBlock) (hown:tv'.ownBlock=tv.ownBlock∨tv'.ownBlock=some W.heap.size):
 ∃ow',zp t ow W ow' (W7.setCell ⟨B,6,none⟩ tv')/\(∀k,W.heap.size<=k->tv'.ownBlock≠some k->ow' k=[])/\zk B K tv' lp {S with trace:=tr} t ow' (W7.setCell ⟨B,6,none⟩ tv'):=by
 obtain⟨ac,hR⟩:=h.trow;have aa:∀g,tv.ownBlock=some g->g≠B:=λg hg=>hR.ne_blk h.blk (by decide) hg
 have lB:=h.blk.lt
 have ae:∀g,tv'.ownBlock=some g->(tv.ownBlock=some g∨g=W.heap.size):=λg hg=>by
  rw [hg] at hown
  rcases hown with h|h
  ·exact .inl h.symm
  right;simpa using h
 have k7:=h.blk.kept (w':=W7) (hgr.block B lB (λe=>aa B e.symm rfl))
 have ab:∀g,tv'.ownBlock=some g->g≠B:=λg hg e=>by
  rcases ae g hg with h1|h1
  ·exact aa g h1 e
  omega
 have ad:zp t ow W (ow.ext W.heap.size (λk=>tv'.ownBlock=some k) (t++ [22])) (W7.setCell ⟨B,6,none⟩ tv'):=
  ⟨(Mod.grown (X:=λk=>Sub t (ow k)) hgr (λk h=>by rw [ac k h];exact Sub.child t 22)).thenSet (p:=⟨B,6,none⟩) (by simp only [h.own];exact Sub.rfl' t) _,λk hk=>Own.ext_old hk⟩
 refine⟨ow.ext W.heap.size (λk=>tv'.ownBlock=some k) (t++ [22]),ad,λk h1 h2=>Own.ext_none h1 h2,k7.set tv',(Own.ext_old lB).trans h.own,λj=>?_⟩
 by_cases hj:j=22
 ·subst hj
  refine⟨λg hg=>?_,hrow.kept (λg hg=>N4 _ _ _ _ (λe=>ab g hg e))⟩
  rcases ae g hg with h1|h1
  ·rw [Own.ext_old (hR.lt h1),ac g h1]
  rw [Own.ext_new (by omega) hg]
 have hw:xW B K tv' lp {S with trace:=tr} t j=xW B K tv lp S t j:=by
  unfold xW;simp only [if_neg hj]
 rw [hw];refine YU B K tv lp S t j _ _ _ _ (h.part j) ad.size (λk hk hs=>⟨Own.ext_old hk,?_⟩);have af:k≠B:=λe=>by rw [e,h.own] at hs;exact zO t j hs
 rw [N4 _ _ _ _ af];refine hgr.block k hk (λe=>?_);rw [ac k e.symm] at hs;exact(zR t hj).1 hs
def ZE(S:zf)(kind at':Int)(told:Nat)(l:List zx)(i:Nat):zf:={S with trace:=S.trace++((l.drop told).take (i - told)).map λm=>(kind,at',m)}
theorem zeH(S:zf)(kind at':Int)(told:Nat)(l:List zx):ZE S kind at' told l told=S:=by
 unfold ZE;simp
theorem zha(S:zf)(kind at':Int)(told:Nat)(l:List zx){i:Nat}(hj:l.length<=i):ZE S kind at' told l i={S with trace:=S.trace++(l.drop told).map λm=>(kind,at',m)} :=by
 unfold ZE;rw [List.take_of_length_le (by rw [U3];omega)]
theorem zeI(S:zf)(kind at':Int)(told:Nat)(l:List zx){i:Nat}(hi:told<=i){x:zx}(hx:l[i]?=some x):ZE S kind at' told l (i+1)={ZE S kind at' told l i with trace:=(ZE S kind at' told l i).trace++ [(kind,at',x)] } :=by
 unfold ZE;rw [show i+1 - told=(i - told)+1 by omega,List.take_add_one,List.getElem?_drop,show told+(i - told)=i by omega,hx];simp
theorem zhb(S:zf)(kind at':Int)(told:Nat)(l:List zx)(i:Nat):(ZE S kind at' told l i).trace.length<=S.trace.length+l.length:=by
 unfold ZE;simp only [N1,List.length_map,N7,U3];omega
theorem zkK(B:Nat)(K:WK)(S:zf)(t:List Nat)(ht:t≠ [])(ow:Own)(kind at':Int)(told:Nat)(l:List zx)(mv:Value)(w:World)(h:zK B K S t ow w)
 (hv:Src w mv 3 l.length (l.flatMap zh)) (hv0:∀a l c,mv=.slice (some a) l c->ow a.block=[]) (hl:S.trace.length+l.length<=1000000000) (htd:told<=1000000000):
 Calls prog 69 #[.pointer (some ⟨B,0,none⟩),.int .i64 kind,.int .i64 at',.int .i64 told,mv] w (qK B K {S with trace:=S.trace++(l.drop told).map λm=>(kind,at',m)} t ow w (.int .i64 (max told l.length:Nat))):=by
 obtain⟨va,vc,rfl⟩:∃a c,mv=.slice a l.length c:=by
  rcases hv.2 with⟨rfl,h0⟩|⟨b,ac,cap,rfl, -⟩
  ·exact⟨none,0,by rw [h0]⟩
  exact⟨_,_,rfl⟩
 have an:∀a l' c,Value.slice va l.length vc=.slice (some a) l' c->¬Sub t (ow a.block):=λa l' c e=>by rw [hv0 a l' c e];exact zj ht
 replace hv:=hid hv;replace an:=hid an;clear hv0
 go_enter func69,ntmps69
 go_wp2
 go_loopw [3] (λp3 wr=>∃(i:Nat)(ow':Own),p3=.int .i64 (i:Nat)/\told<=i/\(i=told∨i<=l.length)/\zp t ow w ow' wr/\zK B K (ZE S kind at' told l i) t ow' wr) (λp3 _=>told+l.length - (intOf p3).toNat)
 case atStart=>exact⟨told,ow,rfl,N0 _,.inl rfl,zp.refl _ _ _,by rw [zeH];exact h⟩
 case round=>
  obtain⟨i,ow',rfl,h1,h2,aq,hW⟩:=hrel;clear h
  by_cases hjN:i<l.length
  ·have t2:decide ((i:Int)<(l.length:Int))=true:=by simpa using hjN
   have y0:(0:Int)<=(i:Int):=by omega
   have y1:(i:Int)<(l.length:Int):=by omega
   have a6:IntKind.i64.wrap ((i:Int)+1)=(i:Int)+1:=by rw [N8];omega
   obtain⟨⟨⟨xi,xc⟩,xd⟩,hx⟩:∃x,l[i]?=some x:=⟨_,N3 hjN⟩;have ap:=hv.out.step aq (λa l' c e=>an.out a l' c e)
   obtain⟨b,ac,rfl⟩:∃b ac,va=some ⟨b,ac,none⟩:=by
    rcases ap.2 with⟨-,h0⟩|⟨b,ac,cap,h0, -⟩
    ·omega
    cases h0;exact⟨_,_,rfl⟩
   obtain⟨c0,c1,c2⟩:=Z3 ap hx;simp only at c0 c1 c2;obtain⟨tv,lp,hI⟩:=hW;have aj:=zhb S kind at' told l i;have aa:=zeI S kind at' told l h1 hx;obtain⟨S1,ay⟩:∃S1,ZE S kind at' told l i=S1:=⟨_,rfl⟩;rw [ay] at hI aj aa;have cB:wr.cell? ⟨B,6,none⟩=some tv:=hI.blk.cell 6;obtain⟨ax,hR⟩:=hI.trow;obtain⟨ta,tc,rfl⟩:=hR.wideV.shape;have lB:=hI.blk.lt;replace hx:=hid hx;replace ay:=hid ay;replace aa:=hid aa;replace ap:=hid ap;replace hR:=hid hR;replace ax:=hid ax;replace hI:=hid hI;have a1:=jx c0;go_wp2_with fail
   refine zd [O 0,O 1,O 2,O 3,O 4,O 5,O 6,O 7,O 8,O 9,O 10,E 11,E 12,E 13,O 14,O 15,E 16] (some 16) (λw'=>w'.cell? ⟨B,6,none⟩=some (.slice ta S1.trace.length tc)/\w'.cell? ⟨b,ac+i*3,none⟩=some (.int .i64 xi)/\w'.cell? ⟨b,ac+i*3+1,none⟩=some (.int .u32 xc)/\w'.cell? ⟨b,ac+i*3+2,none⟩=some (.string (bs xd))/\True) (by kernel_rfl) (by kernel_rfl) ⟨cB,c0,c1,c2,trivial⟩ ?_
   refine Wv ?_
   refine zc rfl (λJ hJ=>?_);go_wp2;refine hJ.out _ _ (λ_=>⟨cB,c0,c1,c2,trivial⟩) ?_;clear hJ J;refine zc rfl (λJ hJ=>?_);go_wp2;refine hJ.out _ _ (λ_=>⟨jo (w:=wr) cB _,jo (w:=wr) c0 _,jo (w:=wr) c1 _,jo (w:=wr) c2 _,trivial⟩) ?_;clear hJ J;obtain⟨W5,ao⟩:∃W5,W5=(wr.alloc (.cells #[.int .i64 kind,.int .i64 at',.int .i64 xi,.int .u32 xc,.string (bs xd)] 80)).drew:=⟨_,rfl⟩;have ah:Below wr.heap.size wr W5:=by rw [ao];exact zm (zi (N2 _ _) _)
   have k5:Blk W5 wr.heap.size #[.int .i64 kind,.int .i64 at',.int .i64 xi,.int .u32 xc,.string (bs xd)] 80:=by rw [ao];exact(Blk.new rfl).drew
   have al:Src W5 (.slice (some ⟨wr.heap.size,0,none⟩) 1 1) 5 [((kind,at',(xi,xc),xd):Yv)].length ([((kind,at',(xi,xc),xd):Yv)].flatMap xV):=jD (n:=1) (size:=5) (cap:=1) k5 rfl (N0 1);rw [← ao];clear ao;have ad:=(zk.loc B K _ lp _ t).cut hI.out ah;obtain⟨a5,W7,aw,ae,ai,af⟩:=zM znc (hR.out.below ah) al (VU _) (by simp;omega) 40
   have ab:Row W7 80 5 a5 (S1.trace++ [(kind,at',(xi,xc),xd)]).length ((S1.trace++ [(kind,at',(xi,xc),xd)]).flatMap xV):=by
    rw [N1,U5];exact ae
   obtain⟨sa,sc,rfl⟩:=ab.wideV.shape;obtain⟨a2,ar,ak,au⟩:=ad.setTrace ab ai af;simp only [N1,U2] at ar au;have a3:W5.cell? ⟨B,6,none⟩=some (.slice ta S1.trace.length tc):=(ah.cell lB).trans cB;have k7:=ad.blk.kept (w':=W7) (ai.block B ad.blk.lt (λe=>(ad.trow.2).ne_blk ad.blk (by decide) e.symm rfl));have az:W7.cell? ⟨B,6,none⟩=some (.slice ta S1.trace.length tc):=k7.cell 6;have a7:=k7.frozen;have a8:=k7.lt;have a0:=jx (Z3 hv.out hx.out).1
   have ag:∀g,(Value.slice ta S1.trace.length tc).ownBlock=some g->g≠b:=λg hg e=>an.out ⟨b,ac,none⟩ _ _ rfl (by
    have h1:=ax.out g hg;rw [e,aq.agree b a0] at h1
    show Sub t (ow b)
    rw [h1];exact Sub.child t 22)
   have am:W7.heap[b]?=wr.heap[b]?:=(ai.block b (by have:=ah.size;have:=jx c0;simp at this;omega) (λe=>ag b e.symm rfl)).trans (ah.block b (by have:=jx c0;simpa using this));have d0:=(World.cell?_of_block (w:=wr) (w':=W7) (a:=⟨b,ac+i*3,none⟩) am).trans c0;have d1:=(World.cell?_of_block (w:=wr) (w':=W7) (a:=⟨b,ac+i*3+1,none⟩) am).trans c1;have d2:=(World.cell?_of_block (w:=wr) (w':=W7) (a:=⟨b,ac+i*3+2,none⟩) am).trans c2;replace ab:=hid ab;replace ae:=hid ae;replace ai:=hid ai;replace af:=hid af;replace ad:=hid ad;replace au:=hid au;replace ar:=hid ar;replace k7:=hid k7;replace ag:=hid ag;replace ak:=hid ak;clear c0 c1 c2 cB a3 am a1;refine zc rfl (λJ hJ=>?_);refine zv rfl _ _ _ rfl rfl rfl aw ?_;unfold wpList;refine hJ.out _ _ (λ_=>⟨az,d0,d1,d2,trivial⟩) ?_;clear hJ J
   refine Wv ?_
   refine zc rfl (λJ hJ=>?_);go_wp2;refine hJ.out _ _ (λhh=>absurd rfl hh) ?_;clear hJ J;refine zg ?_;go_wp2
   go_roundw
   case rel=>exact⟨i+1,a2,by simp,by omega,by omega,aq.trans (zp.wrap ah ar.out),by rw [aa.out];exact⟨_,_,au.out⟩⟩
   case measure=>simp [intOf];omega
  have t2:decide ((i:Int)<(l.length:Int))=false:=by simpa using hjN
  have a4:max told l.length=i:=by omega
  go_wp2;go_ret
  exact⟨by rw [a4];rfl,ow',aq,by rw [← zha S kind at' told l (i:=i) (by omega)];exact hW⟩
variable {B:Nat}{K:WK}{tv:Value}{lp:Nat->Option Nat}{S:zf}{t:List Nat}{ow:Own}
def QS(S:zf)(i:Nat):zf:=setSeat S i {jj S i with lent:=true}
theorem zr.lent {v:Int}{k L:Nat}{S:zf}(h:zr v k L S){i:Nat}(hi:i<S.nodes.length):zr v k L (QS S i):=h.setSeat hi _ ⟨(h.seats i _ (h.seat hi)).1,rfl,rfl⟩
theorem zjh(i:Nat)(hi:i<S.nodes.length)(hN:S.nodes.length<=16)(w:World)(h:zk B K tv lp S t ow w):∃b,K.nl[i]?=some b/\
 Calls prog 16 #[.pointer (some ⟨B,0,none⟩),.int .i64 i] w λe w'=>e=.returned (.pointer (some ⟨b,0,none⟩))/\zp t ow w ow w'/\zk B K tv lp (QS S i) t ow w':=by
 have hn:=V7 w h;have hd:=Qi i w h;rw [show(decide (0<=(i:Int))&& decide ((i:Int)<(S.nodes.length:Int)))=true by simp;omega] at hd;obtain⟨m,hm⟩:∃m,S.nodes[i]?=some m:=⟨_,N3 hi⟩;obtain⟨b,aa, -⟩:=h.node (by omega) hm;refine⟨b,aa,?_⟩;obtain⟨ai,ah,ae⟩:=h.srow
 have ac:S.seats[i]?=some (jj S i):=by
  unfold jj;rw [N3 (by rw [ah];exact hi)];rfl
 have g4:=ae.cellL (jC ac (j:=4) (by decide));have f4:=ae.frozen;have l4:=ae.lt;obtain⟨ag,ab⟩:=h.setSeat (v:=.bool true) (s':={jj S i with lent:=true}) ac (j:=4) (by decide) rfl;have c0:=h.blk.cell;have c1:=ab.blk.cell;have lB:=h.blk.lt;have aj:=h.nodeCell aa;have af:=ab.nodeCell aa;have y0:(0:Int)<=(i:Int):=by omega
 have y1:(i:Int)<(S.nodes.length:Int):=by omega
 replace hn:=hid hn;replace hd:=hid hd;replace ac:=hid ac;replace ab:=hid ab;replace hm:=hid hm;replace aa:=hid aa;clear h
 go_enter func16,ntmps16
 go_wp2_with fail
 refine hn.out.mono ?_;rintro e w1⟨rfl,ad⟩;obtain rfl:=ad.symm;go_wp2_with fail
 refine hd.out.mono ?_;rintro e w1⟨rfl,ad⟩;obtain rfl:=ad.symm;go_wp2;go_ret
 exact⟨rfl,ag.mono (Sub.child t 21),ab.out⟩
end
open Go
def Ja(ws:List (List UInt8))(i:Nat):Prop:=Lib.atoiAll (ws[i]?.getD [])=.ok ((atP ws i:Nat):Int)
def okT:List UInt8:=[111,107,10]
inductive q8(v:Int):zf->List (List UInt8)->zf->List UInt8->Prop
 |send {S S':zf} {ws:List (List UInt8)} (h:ws[0]?=some [115,101,110,100]) (hl:ws.length=3) (hn:Ja ws 1) (hi:atP ws 1<S.nodes.length) (hd:(ws[2]?.getD []).length<=100) (hr:doW (zt v) S ⟨1,atP ws 1,0,0,0,ws[2]?.getD []⟩=(S',0)):q8 v S ws S' okT
 |want {S S':zf} {ws:List (List UInt8)} (h:ws[0]?=some [119,97,110,116]) (hl:ws.length=3) (hn:Ja ws 1) (hm:Ja ws 2) (hi:atP ws 1<S.nodes.length) (hr:doW (zt v) S ⟨10,atP ws 1,atP ws 2,0,0,[]⟩=(S',0)):q8 v S ws S' okT
 |fair {S S':zf} {ws:List (List UInt8)} {g:Nat} (h:ws[0]?=some [102,97,105,114]) (hl:ws.length=2) (hn:Ja ws 1) (hr:atP ws 1<=1000) (hF:YQ (zt v) (atP ws 1) g S S' true) (hg:g<=100000):q8 v S ws S' (xN [[101,110,100],[49]])
 |log {S:zf} {ws:List (List UInt8)} (h:ws[0]?=some [108,111,103]) (hl:ws.length=2) (hn:Ja ws 1) (hi:atP ws 1<S.nodes.length) (hs:∀m∈(zn S (atP ws 1)).loc.log,m.1.1.toNat<100/\0<=m.1.1/\m.1.2<100) (hq:(zn S (atP ws 1)).loc.log.length<=100):q8 v S ws (QS S (atP ws 1)) (xN ([108,111,103]::(zn S (atP ws 1)).loc.log.map λm=>j0 m.1.1.toNat m.1.2))
 |eras {S:zf} {ws:List (List UInt8)} (h:ws[0]?=some [101,114,97,115]) (hl:ws.length=2) (hn:Ja ws 1) (hi:atP ws 1<S.nodes.length) (hs:∀e∈(zn S (atP ws 1)).loc.fold.eras,e.1<100/\0<=e.2.1/\e.2.1.toNat<100) (hq:(zn S (atP ws 1)).loc.fold.eras.length<=100):q8 v S ws (QS S (atP ws 1)) (xN ([101,114,97,115]::(zn S (atP ws 1)).loc.fold.eras.map λe=>j0 e.1 e.2.1.toNat))
 |flying {S:zf} {ws:List (List UInt8)} (h:ws[0]?=some [102,108,121,105,110,103]) (hl:ws.length=1) (hq:S.notes.length<100):q8 v S ws S (xN [[102,108,121,105,110,103],vr S.notes.length])
inductive xh(v:Int):zf->List JK->zf->List UInt8->Prop
 |nil {S:zf} :xh v S [] S []
 |cons {S S1 S':zf} {l:JK} {r:List JK} {o o':List UInt8} (h:q8 v S l.2 S1 o) (h':xh v S1 r S' o'):xh v S (l::r) S' (o++o')
theorem xh.append {v:Int}{S S1 S':zf}{l r:List JK}{o o':List UInt8}(h:xh v S l S1 o)(h':xh v S1 r S' o'):xh v S (l++r) S' (o++o'):=by
 induction h with
 |nil=>exact h'
 |cons h1 _ ih=>rw [List.cons_append,List.append_assoc];exact .cons h1 (ih h')
