/- PARTS OF THE PROOF. -/
import Derived.Test.YtofppfoioodblaaGreatDoorDA31
set_option maxRecDepth 8000
set_option maxHeartbeats 4000000
open Go.Proofs.Tryz
namespace Go.Proofs.YtofppfoioodblaaGreatDoor
section
open Go Go.RowKit Go.Shelf Go.Extern.Stop Go.Stop Go.Extern
attribute [local go_sem] Oper.semAt_some zB zo
variable {B:Nat}{K:WK}{S:zf}{v:Int}{k0 L:Nat}{t:List Nat}{ow:Own}{a:Addr}{w:World}
theorem zeK {tv:Value}{lp:Nat->Option Nat}{W:World}(hI:zk B K tv lp S t ow W){i:Int}(hl:S.trace.length<=1000000000):
 ∃sa sc W7,(Builtin.append_ #[40,40] 40 #[tv,.slice (some ⟨W.heap.size,0,none⟩) 1 1]).run prog (W.alloc (.cells #[.int .i64 2,.int .i64 i,.int .i64 0,.int .u32 0,.string ⟨#[]⟩] 80))=.ok (.slice sa (S.trace.length+1) sc) W7/\
  W7.cell? ⟨B,6,none⟩=some tv/\(∀o,W7.frozen? ⟨B,o,none⟩=false)/\B<W7.heap.size/\(∀k,k<W.heap.size->ow k=[] ->W7.heap[k]?=W.heap[k]?)/\
  ∃ow',zp t ow W ow' (W7.setCell ⟨B,6,none⟩ (.slice sa (S.trace.length+1) sc))/\zK B K {S with trace:=S.trace++ [(2,i,((0,0),[]))] } t ow' (W7.setCell ⟨B,6,none⟩ (.slice sa (S.trace.length+1) sc)):=by
 have ae:Below W.heap.size W (W.alloc (.cells #[.int .i64 2,.int .i64 i,.int .i64 0,.int .u32 0,.string ⟨#[]⟩] 80)):=zi (N2 _ _) _;have k5:Blk (W.alloc (.cells #[.int .i64 2,.int .i64 i,.int .i64 0,.int .u32 0,.string ⟨#[]⟩] 80)) W.heap.size #[.int .i64 2,.int .i64 i,.int .i64 0,.int .u32 0,.string ⟨#[]⟩] 80:=Blk.new rfl;have ad:Src (W.alloc (.cells #[.int .i64 2,.int .i64 i,.int .i64 0,.int .u32 0,.string ⟨#[]⟩] 80)) (.slice (some ⟨W.heap.size,0,none⟩) 1 1) 5 [((2,i,(0,0),[]):Yv)].length ([((2,i,(0,0),[]):Yv)].flatMap xV):=jD (n:=1) (size:=5) (cap:=1) k5 rfl (N0 1);have ab:=(zk.loc B K tv lp _ t).cut hI ae;obtain⟨am,W7,ac,ah,ag,af⟩:=zM znc ab.trow.2 ad (VU _) (by simp;omega) 40
 have aa:Row W7 80 5 am (S.trace++ [(2,i,(0,0),[])]).length ((S.trace++ [(2,i,(0,0),[])]).flatMap xV):=by
  rw [N1,U5];exact ah
 obtain⟨sa,sc,rfl⟩:=aa.wideV.shape;obtain⟨al,ai,ak,aj⟩:=ab.setTrace aa ag af;simp only [N1,U2] at ai aj ac;have k7:=ab.blk.kept (w':=W7) (ag.block B ab.blk.lt (λe=>(ab.trow.2).ne_blk ab.blk (by decide) e.symm rfl));exact⟨sa,sc,W7,ac,k7.cell 6,k7.frozen,k7.lt,λk hk ho=>(ag.block k (Nat.lt_of_lt_of_le hk ae.size) (λe=>by have:=hI.trow.1 k e.symm;rw [ho] at this;simp at this)).trans (ae.block k hk),al,zp.wrap ae ai,_,_,aj⟩
theorem zkL(hk0:k0<=100000000)(ht:t≠ [])(o:OpD)(hG2:zr v k0 (L+16) (vz S (zt v) o).1)(hdeed:∀ow w,zK B K S t ow w->jv w a->ow 2=[] ->Calls prog (zeJ o.kind.toNat) #[opV o,.pointer (some ⟨K.bx,0,none⟩)] w (qK B K (vz S (zt v) o).1 t ow w (.int .i64 (vz S (zt v) o).2)))(k:Nat)(hk:1<=k/\k<=10)(hkd:o.kind=k)(hbad:¬(3<=o.kind/\o.kind<=6)->0<=o.node/\o.node<S.nodes.length)
 (h:zK B K S t ow w) (he:jv w a) (hge:ow 2=[]):Calls prog 13 #[.pointer (some ⟨B,0,none⟩),opV o] w (qK B K (doW (zt v) S o).1 t ow w (.int .i64 (doW (zt v) S o).2)):=by
 have hi:=hbad;unfold opV;obtain⟨a2,ab,A,af,ae,ad⟩:=o;have a7:Below w.heap.size w (w.alloc (.cells #[.int .i64 a2,.int .i64 ab,.int .i64 A,.int .i64 af,.int .u32 (ae:Nat),.string (bs ad)] 37)):=zi (N2 _ _) _;have bt:=(zK.loc B K S t).cut h a7;have kO:Blk (w.alloc (.cells #[.int .i64 a2,.int .i64 ab,.int .i64 A,.int .i64 af,.int .u32 (ae:Nat),.string (bs ad)] 37)) w.heap.size #[.int .i64 a2,.int .i64 ab,.int .i64 A,.int .i64 af,.int .u32 (ae:Nat),.string (bs ad)] 37:=Blk.new rfl;have a4:(ow.cut w) w.heap.size=[]:=Own.cut_new (N0 _);obtain⟨tv,lp,ao⟩:=bt;obtain⟨w1,a5⟩:∃x,x=w.alloc (.cells #[.int .i64 a2,.int .i64 ab,.int .i64 A,.int .i64 af,.int .u32 (ae:Nat),.string (bs ad)] 37):=⟨_,rfl⟩;obtain⟨bb,a0⟩:∃x,x=ow.cut w:=⟨_,rfl⟩;rw [← a0] at ao a4;rw [← a5] at a7 kO ao;have bc:=V7 w1 ao;have bi:=λW hW=>Qi (B:=B) (K:=K) (tv:=tv) (lp:=lp) (S:=S) (t:=t) (ow:=bb) ab W hW
 have a9:=λW=>zeC a2 W
 have c5:w1.drew.cell? ⟨B,5,none⟩=some (.map (some K.dm)):=ao.blk.cell 5;have bq:zZ w1.drew K.dm zkD (zez K.bx):=ao.does.2.2.1;have a6:=λW (hW:zZ W K.dm zkD (zez K.bx))=>hW.lookup_ok qo Tryz.underlying63 (z:=.nilFunc) (by kernel_rfl) a2
 simp only at hkd hbad;simp only at hi;subst hkd;simp only [zlT K.bx hk] at a6;have b2:=he.lt;have bj:zK B K S t bb w1.drew:=⟨tv,lp,(zk.loc B K tv lp S t).below ao (zm (N2 _ _))⟩;have bh:zp t ow w bb w1.drew:=zp.wrap a7 (by rw [← a0];exact zp.drew _ _ _);have bz:jv w1.drew a:=he.step ht bh hge;have bf:bb 2=[]:=by rw [a0,Own.cut_old b2];exact hge
 have aj:=hdeed _ _ bj bz bf;simp only [Int.toNat_natCast] at aj;clear hdeed
 have aa:doW (zt v) S ⟨(k:Int),ab,A,af,ae,ad⟩=if(k:Int)=1/\(vz S (zt v) ⟨(k:Int),ab,A,af,ae,ad⟩).2≠0 then({xp (vz S (zt v) ⟨(k:Int),ab,A,af,ae,ad⟩).1 with trace:=(xp (vz S (zt v) ⟨(k:Int),ab,A,af,ae,ad⟩).1).trace++ [(2,ab,((0,0),[]))] },(vz S (zt v) ⟨(k:Int),ab,A,af,ae,ad⟩).2)else(xp (vz S (zt v) ⟨(k:Int),ab,A,af,ae,ad⟩).1,(vz S (zt v) ⟨(k:Int),ab,A,af,ae,ad⟩).2):=by
  unfold doW;rw [if_neg (by simp only;omega),if_neg (by simp only;omega)]
 obtain⟨⟨S2,er⟩,bl⟩:∃q,vz S (zt v) ⟨(k:Int),ab,A,af,ae,ad⟩=q:=⟨_,rfl⟩;rw [bl] at aj hG2 aa;simp only at aj hG2 aa;have bk:=hG2.tell;unfold opV at aj;simp only at aj;replace bc:=hid bc;replace bi:=hid bi;replace a9:=hid a9;replace a6:=hid a6;replace a0:=hid a0;replace bl:=hid bl;replace bj:=hid bj;replace hG2:=hid hG2;replace bk:=hid bk;replace ao:=hid ao;clear h hbad;have bw:=zdi hk;have ah:=λW hW=>a6.out W hW
 simp only [Vr] at ah;clear a6;obtain⟨fd,be⟩:∃f,zeJ k=f:=⟨_,rfl⟩;rw [be] at aj bw ah;replace ah:=hid ah;replace aj:=hid aj;replace be:=hid be
 by_cases h36:3<=k/\k<=6
 ·have bo:¬((k:Int)=1/\er≠0):=by omega
  rw [if_neg bo] at aa;have ac:=λW=>a9.out W
  simp only [show(!(decide (3<=(k:Int))&& decide ((k:Int)<=6)))=false by simp;omega] at ac;replace ac:=hid ac;replace aa:=hid aa;have tk:((k:Int)==1)=false:=by simp;omega
  clear hi bo hk h36
  go_enter func13,ntmps13
  go_wp2_with fail
  rw [← a5];clear a5;refine(bc.out).mono ?_;rintro e w2⟨rfl,an⟩;obtain rfl:=an.symm;go_wp2_with fail
  refine zd [O 0,O 1,O 2,O 3,O 4,O 5,O 6,O 7,O 8,O 9,O 10,O 11] none (λw'=>w'.cell? ⟨B,5,none⟩=some (.map (some K.dm))/\Blk w' w.heap.size #[.int .i64 (k:Nat),.int .i64 ab,.int .i64 A,.int .i64 af,.int .u32 (ae:Nat),.string (bs ad)] 37/\(Instr.lookup 63 (.map (some K.dm)) (.int .i64 (k:Nat)) true).run prog w'=.ok (.tuple #[.func (.func fd) #[] #[.pointer (some ⟨K.bx,0,none⟩)],.bool true]) w'/\True) (by kernel_rfl) (by kernel_rfl) ⟨c5,kO.drew,ah.out _ bq,trivial⟩ ?_
  refine Ww ?_
  refine zg ?_;have cO:=kO.cell;go_wp2_with fail
  refine(ac.out _).mono ?_;rintro e w2⟨rfl,an⟩;obtain rfl:=an.symm;go_wp2_with fail
  refine aj.out.mono ?_;rintro e w3⟨rfl,au,aw,ax⟩;have az:zp t ow w au w3:=zp.wrap a7 (by rw [← a0.out];exact(zp.drew _ _ _).trans aw);have ay:=kO.drew.kept (aw.block kO.lt (by rw [a4];exact zj ht));have a8:au w.heap.size=[]:=(aw.agree _ kO.lt).trans a4;have a1:=zdh B K _ hG2.out hk0 t ht au w3 ax;replace ax:=hid ax;replace a1:=hid a1;go_wp2_with fail
  refine a1.out.mono ?_;rintro e w4⟨rfl,a3,ar,ba,bn,ag⟩;have ai:=az.trans ar;have ap:=ay.kept (ar.block ay.lt (by rw [a8];exact zj ht));have bu:=ap.cell;have bp:a3 w.heap.size=[]:=(ar.agree _ ay.lt).trans a8;clear cO;replace ag:=hid ag;go_wp2;go_ret
  exact⟨by rw [aa.out];rfl,a3,ai,by rw [aa.out];exact⟨_,_,ag.out⟩⟩
 have ac:=λW=>a9.out W
 simp only [show(!(decide (3<=(k:Int))&& decide ((k:Int)<=6)))=true by simp;omega] at ac;have am:=λW hW=>bi.out W hW
 have b1:=hi (by omega);simp only [show(decide (0<=ab)&& decide (ab<(S.nodes.length:Int)))=true by simp;omega] at am;replace ac:=hid ac;replace am:=hid am;replace aa:=hid aa;clear hi b1 h36
 go_enter func13,ntmps13
 go_wp2_with fail
 rw [← a5];clear a5;refine(bc.out).mono ?_;rintro e w2⟨rfl,an⟩;obtain rfl:=an.symm;go_wp2_with fail
 refine zd [O 0,O 1,O 2,O 3,O 4,O 5,O 6,O 7,O 8,O 9,O 10,O 11] none (λw'=>w'.cell? ⟨B,5,none⟩=some (.map (some K.dm))/\Blk w' w.heap.size #[.int .i64 (k:Nat),.int .i64 ab,.int .i64 A,.int .i64 af,.int .u32 (ae:Nat),.string (bs ad)] 37/\(Instr.lookup 63 (.map (some K.dm)) (.int .i64 (k:Nat)) true).run prog w'=.ok (.tuple #[.func (.func fd) #[] #[.pointer (some ⟨K.bx,0,none⟩)],.bool true]) w'/\True) (by kernel_rfl) (by kernel_rfl) ⟨c5,kO.drew,ah.out _ bq,trivial⟩ ?_
 refine Ww ?_
 refine zg ?_;have cO:=kO.cell;go_wp2_with fail
 refine(ac.out _).mono ?_;rintro e w2⟨rfl,an⟩;obtain rfl:=an.symm;go_wp2_with fail
 refine(am.out _ ((zk.loc B K tv lp S t).below ao.out (zm (N2 _ _)))).mono ?_;rintro e w2⟨rfl,an⟩;obtain rfl:=an.symm;go_wp2_with fail
 refine aj.out.mono ?_;rintro e w3⟨rfl,au,aw,ax⟩;have az:zp t ow w au w3:=zp.wrap a7 (by rw [← a0.out];exact(zp.drew _ _ _).trans aw);have ay:=kO.drew.kept (aw.block kO.lt (by rw [a4];exact zj ht));have a8:au w.heap.size=[]:=(aw.agree _ kO.lt).trans a4;have a1:=zdh B K _ hG2.out hk0 t ht au w3 ax;replace ax:=hid ax;replace a1:=hid a1;go_wp2_with fail
 refine a1.out.mono ?_;rintro e w4⟨rfl,a3,ar,ba,bn,ag⟩;have ai:=az.trans ar;have ap:=ay.kept (ar.block ay.lt (by rw [a8];exact zj ht));have bu:=ap.cell;have bp:a3 w.heap.size=[]:=(ar.agree _ ay.lt).trans a8;clear cO;have al:=aa.out
 by_cases h1:k=1
 ·have tk:((k:Int)==1)=true:=by simp;omega
  by_cases h0:er=0
  ·have te:(er !=0)=false:=by simpa using h0
   rw [if_neg (by simp [h0])] at al;clear aa h0 h1 hk;have aa:=hid al;clear al;replace ag:=hid ag;go_wp2;go_ret
   exact⟨by rw [aa.out];rfl,a3,ai,by rw [aa.out];exact⟨_,_,ag.out⟩⟩
  have te:(er !=0)=true:=by simpa using h0
  rw [if_pos ⟨by omega,h0⟩] at al;clear aa h0 h1 hk;have aa:=hid al;clear al;have ak:=(zk.loc B K ba bn _ t).below ag (zm (N2 _ _));obtain⟨sa,sc,W7,aq,br,b3,b4,bd,bv,bm,bg⟩:=zeK ak (i:=ab) (by have:=bk.out.traceLe;omega);have c6:w4.drew.cell? ⟨B,6,none⟩=some ba:=ak.blk.cell 6;replace ag:=hid ag;replace ak:=hid ak;replace aq:=hid aq;have b0:Blk W7 w.heap.size #[.int .i64 (k:Nat),.int .i64 ab,.int .i64 A,.int .i64 af,.int .u32 (ae:Nat),.string (bs ad)] 37:=ap.kept (bd _ ap.lt bp);replace bd:=hid bd;replace bg:=hid bg;replace bm:=hid bm;go_wp2_with fail
  refine zd [O 0,O 1,O 2,O 3,O 4,O 5,O 6,E 7,E 8,E 9,O 10,O 11,E 12] (some 12) (λw'=>w'.cell? ⟨B,6,none⟩=some ba/\Blk w' w.heap.size #[.int .i64 (k:Nat),.int .i64 ab,.int .i64 A,.int .i64 af,.int .u32 (ae:Nat),.string (bs ad)] 37/\True) (by kernel_rfl) (by kernel_rfl) ⟨c6,ap.drew,trivial⟩ ?_
  refine We ?_
  refine zc rfl (λJ hJ=>?_);go_wp2;refine hJ.out _ _ (λ_=>⟨c6,ap.drew,trivial⟩) ?_;clear hJ J;refine zc rfl (λJ hJ=>?_);go_wp2;refine hJ.out _ _ (λ_=>⟨jo (w:=w4) c6 _,(ap.alloc _).drew,trivial⟩) ?_;clear hJ J;refine zc rfl (λJ hJ=>?_);refine zv rfl _ _ _ rfl rfl rfl aq.out ?_;unfold wpList;refine hJ.out _ _ (λ_=>⟨br,b0,trivial⟩) ?_;clear hJ J
  refine We ?_
  refine zc rfl (λJ hJ=>?_);go_wp2;refine hJ.out _ _ (λhh=>absurd rfl hh) ?_;clear hJ J;refine zg ?_;go_wp2;go_ret
  exact⟨by rw [aa.out];rfl,bv,(ai.trans (zp.drew _ _ _)).trans bm.out,by rw [aa.out];exact bg.out⟩
 have tk:((k:Int)==1)=false:=by simp;omega
 rw [if_neg (by omega)] at al;clear aa h1 hk;have aa:=hid al;clear al;replace ag:=hid ag;go_wp2;go_ret
 exact⟨by rw [aa.out];rfl,a3,ai,by rw [aa.out];exact⟨_,_,ag.out⟩⟩
theorem zmx(hG:zr v k0 L S)(hk0:k0<=100000000)(hL:L<=3000000000)(hv:known v=true)(ht:t≠ [])(o:OpD)(ho:zmv o)(hk:zc1 o.kind)(hi:o.kind≠3->0<=o.node/\o.node<S.nodes.length)(h:zK B K S t ow w)(he:jv w a)(hge:ow 2=[]):
 Calls prog 13 #[.pointer (some ⟨B,0,none⟩),opV o] w (qK B K (doW (zt v) S o).1 t ow w (.int .i64 (doW (zt v) S o).2)):=by
 have ab:=hk;unfold zc1 at ab;have aa:¬(3<=o.kind/\o.kind<=6)->0<=o.node/\o.node<S.nodes.length:=λhn=>hi (by omega)
 exact zkL hk0 ht o (hG.deedA hL o ho.len hk (λh3=>by have:=hi h3;omega)) (λow w h he hge=>zji hG hL hv ht o ho _ (by omega) (by omega) aa h he hge) o.kind.toNat (by omega) (by omega) aa h he hge
end
section
open Go Go.RowKit
variable {P:Program}{ops:Array Oper}{Q:Exit->Act->World->Prop}
theorem zbF {m:Nat}{listed:Array Bool}(R:List Nat)(fr:(Nat->Value)->Act)(g0:Nat->Value)(vf:Nat->Nat->Value)(obj:Nat->Obj)(W0:World)(hok:zeu ops listed R=true)
 (hrun:∀i∈R,∀g W,wpOp P ops (λ_ _ _=>False) i (λa' w'=>a'=fr (λj=>if j=i then vf i W.heap.size else g j)/\w'=W.alloc (obj i)) (fr g) W)
 (hend:∀(h:Nat->Nat) W,(∀i∈R,W.heap[h i]?=some (obj i)/\W0.heap.size<=h i)->(∀i∈R,∀j∈R,i≠j->h i≠h j)->Below W0.heap.size W0 W->yz P ops (jg Q) zcW none m (zgQ listed R []) (fr λi=>vf i (h i)) W):
 ∀(n:Nat)(rest:List Nat)(W:World)(h:Nat->Nat),rest.length=n->rest∈zbp R->(∀i∈R,i∉rest->W.heap[h i]?=some (obj i)/\W0.heap.size<=h i)->(∀i∈R,i∉rest->∀j∈R,j∉rest->i≠j->h i≠h j)->Below W0.heap.size W0 W->yz P ops (jg Q) zcW none (n+m) (zgQ listed R rest) (fr λi=>if i∈rest then g0 i else vf i (h i)) W:=by
 intro n
 induction n with
 |zero=>
  intro rest W h hl hs hR hd hb;obtain rfl:=N9 hl;rw [Nat.zero_add];simp only [List.not_mem_nil,if_false];exact hend h W (λi hi=>hR i hi (by simp)) (λi hi j hj=>hd i hi (by simp) j hj (by simp)) hb
 |succ n ih=>
  intro rest W g hl hs hR hd hb;have h1:=hok;unfold zeu at h1;rw [List.all_eq_true] at h1;have h2:=h1 rest hs;rw [Bool.or_eq_true] at h2
  rcases h2 with h2|h2
  ·have:rest=[]:=by simpa using h2
   subst this;simp at hl
  simp only [Bool.and_eq_true,decide_eq_true_eq,List.all_eq_true] at h2
  obtain⟨h3,h4⟩:=h2;rw [show n+1+m=(n+m)+1 by omega];refine⟨λh0=>(by rw [h3] at h0;subst h0;simp at hl),λi hi=>?_⟩;rw [h3] at hi;obtain⟨⟨⟨h5,h6⟩,h7⟩,h8⟩:=h4 i hi;have ac:i∈R:=by simpa using h5
  refine xl (wpOp_mono (λa' w' h=>?_) (hrun i ac _ W));obtain⟨rfl,rfl⟩:=h;refine⟨λ_=>trivial,?_⟩;rw [h6];have aa:∀j∈R,j∉rest.filter (· !=i)->j≠i->j∉rest:=λj hj hjn hji h=>hjn (by simp [h,hji])
  have ad:(λj=>if j=i then vf i W.heap.size else if j∈rest then g0 j else vf j (g j))=λj=>if j∈rest.filter (· !=i)then g0 j else vf j (if j=i then W.heap.size else g j):=by
   funext j
   by_cases hji:j=i
   ·subst hji;simp
   by_cases hjr:j∈rest<;>simp [hji,hjr]
  rw [ad];refine ih _ _ _ (by omega) (by simpa using h7) (λj hj hjn=>?_) (λj hj hjn j' hj' hjn' hne=>?_) (hb.alloc hb.size _)
  ·by_cases hji:j=i
   ·subst hji
    simp only [if_true];exact⟨World.alloc_heap_new W _,hb.size⟩
   simp only [if_neg hji]
   have h:=hR j hj (aa j hj hjn hji);exact⟨(U4 W _ _ (N5.1 h.1).1).trans h.1,h.2⟩
  have ab:∀x∈R,x∉rest->g x<W.heap.size:=λx hx hxr=>(N5.1 (hR x hx hxr).1).1
  by_cases hji:j=i
  ·subst hji
   simp only [if_true,if_neg (Ne.symm hne)];have:=ab j' hj' (aa j' hj' hjn' (Ne.symm hne));omega
  by_cases hji':j'=i
  ·subst hji'
   simp only [if_true,if_neg hji];have:=ab j hj (aa j hj hjn hji);omega
  simp only [if_neg hji,if_neg hji']
  exact hd j hj (aa j hj hjn hji) j' hj' (aa j' hj' hjn' hji') hne
theorem zjj {m:Nat}{listed:Array Bool}{w:World}(R:List Nat)(fr:(Nat->Value)->Act)(g0:Nat->Value)(vf:Nat->Nat->Value)(obj:Nat->Obj)(hok:(zeu ops listed R && decide (R∈zbp R)&& decide (zgQ listed R R=listed))=true)(hfr:∀g g',(∀i∈R,g i=g' i)->fr g=fr g')
 (hrun:∀i∈R,∀g W,wpOp P ops (λ_ _ _=>False) i (λa' w'=>a'=fr (λj=>if j=i then vf i W.heap.size else g j)/\w'=W.alloc (obj i)) (fr g) W)
 (hend:∀(h:Nat->Nat) W,(∀i∈R,W.heap[h i]?=some (obj i)/\w.heap.size<=h i)->(∀i∈R,∀j∈R,i≠j->h i≠h j)->Below w.heap.size w W->yz P ops (jg Q) zcW none m (zgQ listed R []) (fr λi=>vf i (h i)) W):yz P ops (jg Q) zcW none (R.length+m) listed (fr g0) w:=by
 simp only [Bool.and_eq_true,decide_eq_true_eq] at hok;obtain⟨⟨h1,h2⟩,h3⟩:=hok;have:=zbF R fr g0 vf obj w h1 hrun hend R.length R w (λ_=>0) rfl h2 (λi hi hn=>absurd hi hn) (λi hi hn=>absurd hi hn) (N2 _ _);rw [h3,hfr (λi=>if i∈R then g0 i else vf i 0) g0 (λi hi=>by simp [hi])] at this;exact this
def frp(a:Act)(d:Nat->Nat)(R:List Nat)(g:Nat->Value):Act:={a with tmps:=R.foldl (λt i=>t.setIfInBounds (d i) (g i)) a.tmps}
theorem zjk(a:Act)(d:Nat->Nat)(R:List Nat)(g g':Nat->Value)(h:∀i∈R,g i=g' i):frp a d R g=frp a d R g':=by
 unfold frp
 congr 1
 generalize a.tmps=t
 induction R generalizing t with
 |nil=>rfl
 |cons i R ih=>rw [List.foldl_cons,List.foldl_cons,h i (by simp)];exact ih (λj hj=>h j (by simp [hj])) _
theorem zhd {m:Nat}{listed:Array Bool}{a:Act}{w:World}(R:List Nat)(d:Nat->Nat)(g0:Nat->Value)(vf:Nat->Nat->Value)(obj:Nat->Obj)(hok:(zeu ops listed R && decide (R∈zbp R)&& decide (zgQ listed R R=listed))=true)(h0:frp a d R g0=a)
 (hrun:∀i∈R,∀g W,wpOp P ops (λ_ _ _=>False) i (λa' w'=>a'=frp a d R (λj=>if j=i then vf i W.heap.size else g j)/\w'=W.alloc (obj i)) (frp a d R g) W)
 (hend:∀(h:Nat->Nat) W,(∀i∈R,W.heap[h i]?=some (obj i)/\w.heap.size<=h i)->(∀i∈R,∀j∈R,i≠j->h i≠h j)->Below w.heap.size w W->yz P ops (jg Q) zcW none m (zgQ listed R []) (frp a d R λi=>vf i (h i)) W):yz P ops (jg Q) zcW none (R.length+m) listed a w:=by
 have:=zjj R (frp a d R) g0 vf obj hok (zjk a d R) hrun hend
 rwa [h0] at this
end
open Go Go.RowKit Go.Shelf Go.Extern.Stop Go.Stop Go.Extern
attribute [local go_sem] Oper.semAt_some zB zo
theorem zmy:Yf prog 62 43 1 8 (.pointer none):=⟨Tryz.underlying62,by kernel_rfl,rfl,by decide,by decide⟩
theorem zdj(l:List Nat):∀u∈vE l,u.oneCell'=true:=by
 intro u hu;obtain⟨m,_,rfl⟩:=List.mem_map.1 hu;rfl
def YY(n:Nat):Array Value:=((List.replicate n yX).flatMap jZ).toArray
theorem zk9:Yf prog 57 90 5 32 (.agg #[.int .u64 0,.int .i64 0,.int .i64 0,.bool false,.bool false]):=⟨Tryz.underlying57,by kernel_rfl,rfl,by decide,by decide⟩
theorem zhe(n:Nat)(hn:n<=16):madeCells #[.int .u64 0,.int .i64 0,.int .i64 0,.bool false,.bool false] (n*5)=YY n:=by
 rcases(by omega:n=0∨n=1∨n=2∨n=3∨n=4∨n=5∨n=6∨n=7∨n=8∨n=9∨n=10∨n=11∨n=12∨n=13∨n=14∨n=15∨n=16)with rfl|rfl|rfl|rfl|rfl|rfl|rfl|rfl|rfl|rfl|rfl|rfl|rfl|rfl|rfl|rfl|rfl<;>kernel_rfl
theorem zhf(n:Nat)(hn:n<=16)(W:World):(Instr.makeSlice 57 (.int .i64 (n:Nat)) (.int .i64 (n:Nat))).run prog W=.ok (.slice (some ⟨W.heap.size,0,none⟩) n n) (W.alloc (.cells (YY n) 90)):=by
 obtain⟨i,hi,ac,aa,ab⟩:=info_parts zk9.info;have h:=run_makeSlice (P:=prog) (w:=W) 57 90 i _ zk9.under hi ac .i64 .i64 (n:Nat) (n:Nat) (by omega) (Int.le_refl _) (by rw [aa];omega) (by rw [ab];omega) (by omega);simp only [Int.toNat_natCast,aa] at h;rw [h,← zhe n hn];rfl
structure YZ(B sb lm fb hm n:Nat)(v cap:Int)(nv:Value)(nl:List Nat)(t:List Nat)(ow:Own)(W:World):Prop where
 blk:Blk W B #[nv,.slice (some ⟨sb,0,none⟩) n n,.map (some lm),.pointer (some ⟨fb,0,none⟩),.map (some hm),.map none,.slice none 0 0] 65
 own:ow B=t
 row:Row W 43 1 nv nl.length (vE nl)
 rown:∀g,nv.ownBlock=some g->ow g=t++ [20]
 nodes:∀(i:Nat) b,nl[i]?=some b->jH b (zhq i v cap [] (zt v)) (t++ [i]) ow W
 sk:Blk W sb (YY n) 90
 so:ow sb=t++ [21]
 lk:zZ W lm QM []
 lo:ow lm=t++ [17]
 hk:zZ W hm zhr []
 ho:ow hm=t++ [18]
 fl:jK fb 0 [] (t++ [16]) ow W
theorem YZ.loc(B sb lm fb hm n:Nat)(v cap:Int)(nv:Value)(nl:List Nat)(t:List Nat):yC t (YZ B sb lm fb hm n v cap nv nl t):=by
 intro ow ow' W W' h hs hk;have kk:∀k i,k<W.heap.size->ow k=t++ [i] ->ow' k=ow k/\W'.heap[k]?=W.heap[k]?:=λk i h1 h2=>hk k h1 (by rw [h2];exact Sub.child t i)
 have kB:=hk B h.blk.lt (by rw [h.own];exact Sub.rfl' t);have ks:=kk sb 21 h.sk.lt h.so;have kl:=kk lm 17 h.lk.lt h.lo;have kh:=kk hm 18 h.hk.lt h.ho;have kr:=λg hg=>kk g 20 (h.row.lt hg) (h.rown g hg)
 exact⟨h.blk.kept kB.2,kB.1.trans h.own,h.row.kept (λg hg=>(kr g hg).2),λg hg=>(kr g hg).1.trans (h.rown g hg),
  λi b hb=>jH.loc _ _ _ _ _ _ _ (h.nodes i b hb) hs (λk h1 h2=>hk k h1 ((Sub.child t i).trans h2)),
  h.sk.kept ks.2,ks.1.trans h.so,h.lk.kept kl.2,kl.1.trans h.lo,h.hk.kept kh.2,kh.1.trans h.ho,jK.loc _ _ _ _ _ _ _ _ h.fl hs (λk h1 h2=>hk k h1 ((Sub.child t 16).trans h2))⟩
theorem YZ.push {B sb lm fb hm n:Nat}{v cap:Int}{nv nv':Value}{nl:List Nat}{t:List Nat}{ow:Own}{W W7:World}(h:YZ B sb lm fb hm n v cap nv nl t ow W){b:Nat}(hN:jH b (zhq nl.length v cap [] (zt v)) (t++ [nl.length]) ow W)(hl:nl.length<16)
 (hrow:Row W7 43 1 nv' (nl++ [b]).length (vE (nl++ [b]))) (hgr:W.grownBy W7 nv.ownBlock) (hown:nv'.ownBlock=nv.ownBlock∨nv'.ownBlock=some W.heap.size):
 zp t ow W (ow.ext W.heap.size (λk=>nv'.ownBlock=some k) (t++ [20])) (W7.setCell ⟨B,0,none⟩ nv')/\YZ B sb lm fb hm n v cap nv' (nl++ [b]) t (ow.ext W.heap.size (λk=>nv'.ownBlock=some k) (t++ [20])) (W7.setCell ⟨B,0,none⟩ nv'):=by
 have aa:∀g,nv.ownBlock=some g->g≠B:=λg hg=>h.row.ne_blk h.blk (by decide) hg
 have lB:=h.blk.lt
 have ae:∀g,nv'.ownBlock=some g->(nv.ownBlock=some g∨g=W.heap.size):=λg hg=>by
  rw [hg] at hown
  rcases hown with h|h
  ·exact .inl h.symm
  right;simpa using h
 have k7:=h.blk.kept (w':=W7) (hgr.block B lB (λe=>aa B e.symm rfl))
 have ab:∀g,nv'.ownBlock=some g->g≠B:=λg hg e=>by
  rcases ae g hg with h1|h1
  ·exact aa g h1 e
  omega
 have ad:zp t ow W (ow.ext W.heap.size (λk=>nv'.ownBlock=some k) (t++ [20])) (W7.setCell ⟨B,0,none⟩ nv'):=
  ⟨(Mod.grown (X:=λk=>Sub t (ow k)) hgr (λk hk=>by rw [h.rown k hk];exact Sub.child t 20)).thenSet (p:=⟨B,0,none⟩) (by simp only [h.own];exact Sub.rfl' t) _,λk hk=>Own.ext_old hk⟩
 have ac:∀j,j≠20->∀k,k<W.heap.size->Sub (t++ [j]) (ow k)->(ow.ext W.heap.size (λk=>nv'.ownBlock=some k) (t++ [20])) k=ow k/\(W7.setCell ⟨B,0,none⟩ nv').heap[k]?=W.heap[k]?:=λj hj k hk hs=>by
  refine⟨Own.ext_old hk,?_⟩;have af:k≠B:=λe=>by rw [e,h.own] at hs;exact zO t j hs
  rw [N4 _ _ _ _ af];refine hgr.block k hk (λe=>?_);rw [h.rown k e.symm] at hs;exact(zR t hj).1 hs
 have k1:∀k j,j≠20->k<W.heap.size->ow k=t++ [j] ->(ow.ext W.heap.size (λk=>nv'.ownBlock=some k) (t++ [20])) k=ow k/\(W7.setCell ⟨B,0,none⟩ nv').heap[k]?=W.heap[k]?:=λk j hj hk ho=>ac j hj k hk (by rw [ho];exact Sub.rfl' _)
 have ks:=k1 sb 21 (by omega) h.sk.lt h.so;have kl:=k1 lm 17 (by omega) h.lk.lt h.lo;have kh:=k1 hm 18 (by omega) h.hk.lt h.ho
 refine⟨ad,k7.set nv',(Own.ext_old lB).trans h.own,hrow.kept (λg hg=>N4 _ _ _ _ (λe=>ab g hg e)),λg hg=>?_,λi c hc=>?_,
  h.sk.kept ks.2,ks.1.trans h.so,h.lk.kept kl.2,kl.1.trans h.lo,h.hk.kept kh.2,kh.1.trans h.ho,jK.loc _ _ _ _ _ _ _ _ h.fl ad.size (ac 16 (by omega))⟩
 ·rcases ae g hg with h1|h1
  ·rw [Own.ext_old (h.row.lt h1),h.rown g h1]
  rw [Own.ext_new (by omega) hg]
 rcases Nat.lt_or_ge i nl.length with hi|hi
 ·rw [U8 hi] at hc
  exact jH.loc _ _ _ _ _ _ _ (h.nodes i c hc) ad.size (ac i (by omega))
 rw [U6 hi] at hc
 have ag:i=nl.length:=by
  have:=(N6.1 hc).1;simp at this;omega
 subst ag;simp at hc
 subst hc;exact jH.loc _ _ _ _ _ _ _ hN ad.size (ac nl.length (by omega))
theorem YZ.done {B sb lm fb hm n bx dm:Nat}{v cap:Int}{nv:Value}{nl:List Nat}{t:List Nat}{ow:Own}{W:World}(h:YZ B sb lm fb hm n v cap nv nl t ow W)(hn:nl.length=n)(h1:1<=n)(hn16:n<=16)
 (hb:Blk W bx #[.pointer (some ⟨B,0,none⟩)] 24) (hd:zZ W dm zkD (zez bx)) (ob:ow bx=t++ [19]) (od:ow dm=t++ [19]):
 zp t ow W ow (W.setCell ⟨B,5,none⟩ (.map (some dm)))/\∃K,zK B K (Zn n v cap (zt v)) t ow (W.setCell ⟨B,5,none⟩ (.map (some dm))):=by
 have hM:Mod (λk=>k=B) W (W.setCell ⟨B,5,none⟩ (.map (some dm))):=(Mod.refl (λk=>k=B) W).thenSet (p:=⟨B,5,none⟩) rfl _
 obtain⟨nb,nc,af⟩:∃nb nc,nv=.slice (some ⟨nb,0,none⟩) nl.length nc:=by
  rcases h.row.form with⟨-,h0, -⟩|⟨g,cap,h, -⟩
  ·omega
  exact⟨g,cap,h⟩
 subst af;have ag:∀k i,ow k=t++ [i] ->k≠B:=λk i ho e=>by rw [e,h.own] at ho;have:=congrArg List.length ho;simp at this
 have aa:∀k i,ow k=t++ [i] ->(W.setCell ⟨B,5,none⟩ (.map (some dm))).heap[k]?=W.heap[k]?:=λk i ho=>N4 _ _ _ _ (ag k i ho)
 have ab:(Zn n v cap (zt v)).nodes.length=n:=by simp [Zn]
 refine⟨zp.setCell W ⟨B,5,none⟩ _ (by simp only [h.own];exact Sub.rfl' t),⟨fb,lm,hm,dm,bx,nb,nc,sb,nl⟩,.slice none 0 0,λ_=>none,?_,h.own,λi=>?_⟩
 ·rw [ab]
  have:=h.blk.set (o:=5) (.map (some dm));rw [hn] at this;exact this
 unfold xW
 split
 ·intro m hm'
  have ae:((List.range n).map λ(i:Nat)=>zhq i v cap [] (zt v))[i]?=some m:=hm';rw [List.getElem?_map] at ae;obtain⟨j,hj,rfl⟩:=Option.map_eq_some_iff.1 ae;obtain⟨ah,ac⟩:=N6.1 hj;simp only [List.getElem_range] at ac;subst ac;have ad:i<nl.length:=by simp only [List.length_range] at ah;omega
  refine⟨nl[i],N3 ad,?_⟩;exact(jH.loc _ _ _).node (h.nodes i _ (N3 ad)) h.own hM (λ_ _=>rfl)
 split
 ·rename_i e;subst e
  exact(jK.loc _ _ _ _).node h.fl h.own hM (λ_ _=>rfl)
 split
 ·rename_i e;subst e
  exact⟨h.lo,[],by simp,h.lk.kept (aa _ _ h.lo),λj=>rfl⟩
 split
 ·rename_i e;subst e
  exact⟨h.ho,h.hk.kept (aa _ _ h.ho)⟩
 split
 ·rename_i e;subst e
  exact⟨od,ob,hd.kept (aa _ _ od),hb.kept (aa _ _ ob)⟩
 split
 ·rename_i e;subst e
  refine⟨h.rown nb rfl,by rw [ab];exact hn,?_⟩;rw [ab,← hn];exact h.row.kept (λg hg=>aa _ _ (h.rown g hg))
 split
 ·rename_i e;subst e
  exact⟨h.so,by rw [ab];simp [Zn],h.sk.kept (aa _ _ h.so)⟩
 split
 ·exact⟨λg hg=>by simp [Value.ownBlock] at hg,jc _ _ _⟩
 split
 ·trivial
 simp [Zn,zH]
def zkM(n:Nat)(v cap:Int)(t:List Nat)(ow:Own)(w:World)(e:Ending)(w':World):Prop:=
 ∃B K ow',e=.returned (.tuple #[.pointer (some ⟨B,0,none⟩),.int .i64 0])/\zp t ow w ow' w'/\Below w.heap.size w w'/\zK B K (Zn n v cap (zt v)) t ow' w'/\w.heap.size<=B
theorem zkN(a:Addr)(n:Nat)(hn:1<=n/\n<=16)(v cap:Int)(hv:known v=true)(h1:64<=cap)(h2:cap<=1048576)(t:List Nat)(ow:Own)(w:World)(he:jv w a):
 Calls prog 9 #[.int .i64 (n:Nat),.int .i64 v,.int .i64 cap,.slice none 0 0] w (zkM n v cap t ow w):=by
 have ak:=λ(i:Nat) hi ow W hW=>zkw a i v cap (by omega) hi hv h1 h2 (t++ [i]) ow W hW
 have b3:= @run_makeMap prog;have t1:decide ((n:Int)<1)=false:=by simp;omega
 have t2:decide (16<(n:Int))=false:=by simp;omega
 have y0:(0:Int)<=(n:Int):=by omega
 replace ak:=hid ak
 go_enter func9,ntmps9
 go_wp2_with fail
 refine vB [O 0] none zcW #[true,false,false,false,false,false,false,false] (m:=7) (by kernel_rfl) (by kernel_rfl) trivial ?_
 refine Wr ?_
 refine jS (λ_=>?_)
 refine zhd (m:=3) [1,2,3,4] (λi=>21+i) (λ_=>undef)
  (λi b=>match i with|1=>.slice (some ⟨b,0,none⟩) n n|2=>.map (some b)|3=>.pointer (some ⟨b,0,none⟩)|_=>.map (some b))
  (λi=>match i with|1=>.cells (YY n) 90|2=>.map #[] 0|3=>.cells #[.int .u32 0,.slice none 0 0] 122|_=>.map #[] 0) (by kernel_rfl) rfl ?_ ?_
 ·intro i hi g W
  rcases(by simpa using hi:i=1∨i=2∨i=3∨i=4)with rfl|rfl|rfl|rfl
  ·unfold frp
   simp only [List.foldl_cons,List.foldl_nil];go_simp;refine yJ rfl (λJ hJ=>?_);have b5:=zhf n hn.2 W;go_wp2;exact hJ.out _ _ ⟨rfl,rfl⟩
  ·unfold frp
   simp only [List.foldl_cons,List.foldl_nil];go_simp;refine yJ rfl (λJ hJ=>?_);go_wp2;exact hJ.out _ _ ⟨rfl,rfl⟩
  ·unfold frp
   simp only [List.foldl_cons,List.foldl_nil];go_simp;refine yJ rfl (λJ hJ=>?_);go_wp2_with fail
   refine(zi0 _).mono ?_;rintro e w1⟨rfl,rfl⟩;go_wp2;exact hJ.out _ _ ⟨rfl,rfl⟩
  unfold frp
  simp only [List.foldl_cons,List.foldl_nil];go_simp;refine yJ rfl (λJ hJ=>?_);go_wp2;exact hJ.out _ _ ⟨rfl,rfl⟩
 intro h W hh hd hb0;obtain⟨sb,a9⟩:∃x,h 1=x:=⟨_,rfl⟩;obtain⟨lm,bc⟩:∃x,h 2=x:=⟨_,rfl⟩;obtain⟨fb,a5⟩:∃x,h 3=x:=⟨_,rfl⟩;obtain⟨hm,a6⟩:∃x,h 4=x:=⟨_,rfl⟩;have g1:=hh 1 (by simp);have g2:=hh 2 (by simp);have g3:=hh 3 (by simp);have g4:=hh 4 (by simp);have a7:=hd 1 (by simp) 2 (by simp) (by decide);have ba:=hd 1 (by simp) 3 (by simp) (by decide);have bf:=hd 1 (by simp) 4 (by simp) (by decide);have a2:=hd 2 (by simp) 3 (by simp) (by decide);have a8:=hd 2 (by simp) 4 (by simp) (by decide);have a3:=hd 3 (by simp) 4 (by simp) (by decide);simp only [a9,bc,a5,a6] at g1 g2 g3 g4 a7 ba bf a2 a8 a3;unfold frp;simp only [List.foldl_cons,List.foldl_nil,a9,bc,a5,a6];go_simp;clear hh hd a9 bc a5 a6 h;refine xC [E 5,E 6,O 7] (by kernel_rfl) (λ_=>trivial) ?_;refine jJ rfl (by simp) (λJ hJ=>?_);go_wp2;refine hJ.out _ _ trivial ?_;clear hJ J;refine jJ rfl (by simp) (λJ hJ=>?_);go_wp2;refine hJ.out _ _ trivial ?_;clear hJ J
 refine Wr ?_
 refine jS ?_;obtain⟨W1,ap⟩:∃x,x=W.alloc (.cells #[.slice none 0 0,.slice (some ⟨sb,0,none⟩) n n,.map (some lm),.pointer (some ⟨fb,0,none⟩),.map (some hm),.map none,.slice none 0 0] 65):=⟨_,rfl⟩;have b9:w.drew.heap.size=w.heap.size:=rfl;have a4:Below w.heap.size w W1:=by rw [ap];exact zi (ze (zm (N2 _ _)) hb0) _
 have bh:Blk W1 W.heap.size #[.slice none 0 0,.slice (some ⟨sb,0,none⟩) n n,.map (some lm),.pointer (some ⟨fb,0,none⟩),.map (some hm),.map none,.slice none 0 0] 65:=by rw [ap];exact Blk.new rfl
 have ad:∀k o,W.heap[k]?=some o->W1.heap[k]?=some o:=λk o hk=>by rw [ap];exact(U4 W _ _ (N5.1 hk).1).trans hk
 have au:∀k o,W.heap[k]?=some o->k<W.heap.size:=λk o hk=>(N5.1 hk).1
 have q1:=au _ _ g1.1;have q2:=au _ _ g2.1;have q3:=au _ _ g3.1;have q4:=au _ _ g4.1;have bt:=hb0.size;rw [← ap];obtain⟨bd,aa⟩:∃f:Own,f=λk=>if k<w.heap.size then ow k else if k=W.heap.size then t else if k=sb then t++ [21] else if k=lm then t++ [17] else if k=fb then t++ [16] else if k=hm then t++ [18] else []:=⟨_,rfl⟩
 have aq:zp t ow w bd W1:=⟨Mod.of_below _ a4,λk hk=>by rw [aa];simp only [if_pos hk]⟩
 have bi:YZ W.heap.size sb lm fb hm n v cap (.slice none 0 0) [] t bd W1:=by
  have n1:¬W.heap.size<w.heap.size:=by omega
  have n2:¬sb<w.heap.size:=by omega
  have n3:¬lm<w.heap.size:=by omega
  have n4:¬fb<w.heap.size:=by omega
  have n5:¬hm<w.heap.size:=by omega
  refine⟨bh,?_,jc _ _ _,λg hg=>(by cases hg),λi b hb=>(by simp at hb),ad _ _ g1.1,?_,?_,?_,?_,?_,?_⟩
  ·rw [aa];simp only [if_neg n1,if_true]
  ·rw [aa];simp only [if_neg n2,if_neg (show¬sb=W.heap.size by omega),if_true]
  ·exact⟨#[],0,ad _ _ g2.1,rfl,by simp,by simp⟩
  ·rw [aa];simp only [if_neg n3,if_neg (show¬lm=W.heap.size by omega),if_neg (Ne.symm a7),if_true]
  ·exact⟨#[],0,ad _ _ g4.1,rfl,by simp,by simp⟩
  ·rw [aa];simp only [if_neg n5,if_neg (show¬hm=W.heap.size by omega),if_neg (Ne.symm bf),if_neg (Ne.symm a8),if_neg (Ne.symm a3),if_true]
  refine⟨.slice none 0 0,ad _ _ g3.1,⟨rfl,.inl ⟨rfl,rfl⟩⟩,?_,λg hg=>(by cases hg)⟩
  rw [aa];simp only [if_neg n4,if_neg (show¬fb=W.heap.size by omega),if_neg (Ne.symm ba),if_neg (Ne.symm a2),if_true]
 have be:w.heap.size<=W.heap.size:=by omega
 have bz:=he.lt
 generalize W.heap.size=B at*
 clear ad au g1 g2 g3 g4 q1 q2 q3 q4 a7 ba bf a2 a8 a3 ap hb0 aa bt bh;go_wp2
 go_loopw [29] (λp29 wr=>∃(nl:List Nat)(nv:Value)(ow':Own),p29=.int .i64 (nl.length:Nat)/\nl.length<=n/\zp t ow w ow' wr/\Below w.heap.size w wr/\(∀g,nv.ownBlock=some g->w.heap.size<=g)/\YZ B sb lm fb hm n v cap nv nl t ow' wr) (λp29 _=>n - (intOf p29).toNat)
 case atStart=>exact⟨[],.slice none 0 0,bd,rfl,Nat.zero_le _,aq,a4,λg hg=>(by cases hg),bi⟩
 case round=>
  obtain⟨nl,nv,ow',rfl,bo,bl,al,an,hH⟩:=hrel;clear bi aq a4;obtain⟨j,hj⟩:∃j,nl.length=j:=⟨_,rfl⟩;rw [hj] at bo⊢
  by_cases hjN:j<n
  ·have t3:decide ((j:Int)<(n:Int))=true:=by simpa using hjN
   have t4:decide ((j:Int)<0)=false:=by simp
   have b4:IntKind.i64.wrap ((j:Int)+1)=(j:Int)+1:=by rw [N8];omega
   have a1:=ak.out j (by omega) ow' _ (he.below al bz);replace a1:=hid a1;replace hj:=hid hj;replace hH:=hid hH;replace an:=hid an;go_wp2_with fail
   refine a1.out.mono ?_;rintro e w2⟨b,br,rfl,bk,am,a0,bv⟩;have ax:YZ B sb lm fb hm n v cap nv nl t br w2:=YZ.loc _ _ _ _ _ _ _ _ _ _ _ _ _ _ _ hH.out am.size (λk hk _=>⟨bk.agree k hk,am.block k hk⟩);have ay:Below w2.heap.size w2 (w2.alloc (.cells #[.pointer (some ⟨b,0,none⟩)] 43)):=zi (N2 _ _) _;have k3:Blk (w2.alloc (.cells #[.pointer (some ⟨b,0,none⟩)] 43)) w2.heap.size #[.pointer (some ⟨b,0,none⟩)] 43:=Blk.new rfl;have ar:Src (w2.alloc (.cells #[.pointer (some ⟨b,0,none⟩)] 43)) (.slice (some ⟨w2.heap.size,0,none⟩) 1 1) 1 [b].length (vE [b]):=jD (n:=1) (size:=1) (cap:=1) k3 rfl (N0 1);have ag:=(YZ.loc B sb lm fb hm n v cap nv nl t).cut ax ay;have bg:=(jH.loc b _ _).cut a0 ay;obtain⟨bj,W7,af,aj,ao,ac⟩:=zM zmy ag.row ar (zdj _) (by rw [hj.out];simp;omega) 62
   have ab:Row W7 43 1 bj (nl++ [b]).length (vE (nl++ [b])):=by
    rw [N1,show vE (nl++ [b])=vE nl++vE [b] by unfold vE;simp];exact aj
   have ai:=bg;rw [← hj.out] at ai;obtain⟨az,ae⟩:=ag.push ai (by rw [hj.out];omega) ab ao ac;have bm:Below w.heap.size w W7:=(ze (ze al am) ay).grown ao (by have:=am.size;have:=al.size;simp;omega) (λk hk=>an.out k hk)
   have ah:∀g,bj.ownBlock=some g->w.heap.size<=g:=λg hg=>by
    rw [hg] at ac
    rcases ac with h|h
    ·exact an.out g h.symm
    have:=am.size;have:=al.size;simp at h;omega
   have b1:=al.size;have b2:=am.size;have bn:=ag.row.ne_blk ag.blk (by decide) (g:=B);have bb:=ag.blk.kept (w':=W7) (ao.block B ag.blk.lt (λe=>bn e.symm rfl));have b8:=ax.blk.cell 0;have b7:=bb.cell 0;have f7:=bb.frozen;have l7:=bb.lt;obtain⟨na,nc,rfl⟩:=ag.row.wideV.shape;obtain⟨b0,b6,rfl⟩:=ab.wideV.shape;simp only [N1,U2] at az ae ah af;replace ax:=hid ax;replace ag:=hid ag;replace ae:=hid ae;replace ah:=hid ah;replace ab:=hid ab;replace aj:=hid aj;replace ao:=hid ao;replace ac:=hid ac;replace a0:=hid a0;replace bg:=hid bg;replace ai:=hid ai;replace af:=hid af;replace az:=hid az
   go_wp2_with (at_builtin
                refine zv rfl _ _ _ rfl rfl rfl af.out ?_)
   go_roundw
   case rel=>exact⟨nl++ [b],_,_,by simp [hj.out],by simp [hj.out];omega,(bl.trans (bk.mono (Sub.child t j))).trans (zp.wrap ay az.out),zu bm be _,ah.out,ae.out⟩
   case measure=>simp [intOf];omega
  obtain rfl:n=j:=by omega
  have t3:decide ((n:Int)<(n:Int))=false:=by simp
  replace hH:=hid hH;replace an:=hid an;replace hj:=hid hj;go_wp2_with fail
  refine(zhc B _).mono ?_;rintro e w8⟨rfl,aw,bq,bw⟩;have ae:YZ B sb lm fb hm n v cap nv nl t (ow'.ext wr.heap.size (λk=>k=wr.heap.size∨k=wr.heap.size+1) (t++ [19])) w8:=YZ.loc _ _ _ _ _ _ _ _ _ _ _ _ _ _ _ hH.out aw.size (λk hk _=>⟨Own.ext_old hk,aw.block k hk⟩);have c8:=ae.blk.cell 5;have f8:=ae.blk.frozen;have l8:=ae.blk.lt;obtain⟨bu,K,bp⟩:=ae.done hj.out hn.1 hn.2 bq bw (Own.ext_new (by omega) (.inl rfl)) (Own.ext_new (by omega) (.inr rfl));replace ae:=hid ae;go_wp2;go_ret2
  exact⟨B,K,_,rfl,(bl.trans ⟨Mod.of_below _ aw,λk hk=>Own.ext_old hk⟩).trans bu,zu (ze al aw) be _,bp,be⟩
variable {B:Nat}{K:WK}{tv:Value}{lp:Nat->Option Nat}{S:zf}{v:Int}{k0 L:Nat}{t:List Nat}{ow:Own}{w:World}
theorem zkO(l:List zq)(f:zq->Bool){k:Nat}{x:zq}(hx:l[k]?=some x):(l.take (k+1)).any f=((l.take k).any f||f x):=by
 rw [List.take_add_one,hx];simp
theorem Qo {i:Nat}(hi:i<S.nodes.length):S.nodes[i]?=some (zn S i):=by
 unfold zn;rw [N3 hi];rfl
theorem zfw(hG:zr v k0 L S)(i:Nat)(hi:i<S.nodes.length)(h:zk B K tv lp S t ow w):
 Calls prog 67 #[.pointer (some ⟨B,0,none⟩),.int .i64 (i:Nat)] w λe w'=>e=.returned (.bool (zfc S i))/\Below w.heap.size w w':=by
 have ax:=hG.n0;have hB:=h.blk;have e0:=hB.cell;have l0:=hB.lt;have y0:(0:Int)<=(i:Int):=by omega
 have y1:(i:Int)<(S.nodes.length:Int):=by omega
 have am:∀j,j<S.nodes.length->∃b,K.nl[j]?=some b/\w.cell? ⟨K.nb,j,none⟩=some (.pointer (some ⟨b,0,none⟩))/\∀W,Below w.heap.size w W->Calls prog 97 #[.pointer (some ⟨b,0,none⟩)] W λe w'=>e=.returned (.int .i64 (yE (zn S j):Nat))/\Below W.heap.size W w':=by
  intro j hj;obtain⟨b,ae,px,sb,lb,pb,av,hN⟩:=h.node (by omega) (hG.node hj).1;refine⟨b,ae,h.nodeCell ae,λW hW=>?_⟩;have au:=(hG.node hj).2;exact zcU (px:=px) (sb:=sb) (lb:=lb) (pb:=pb) (av:=av) b (zn S j) (t++ [j]) (by simp) ow W ((zw.loc _ _ _ _ _ _ _ _).below hN hW) au.ok.bounds.2.2.1 au.known
 obtain⟨b,ae,aq,an⟩:=am i hi
 have ai:∀W,Below w.heap.size w W->Calls prog 96 #[.pointer (some ⟨b,0,none⟩)] W λr w'=>r=.returned (okV (jN (zn S i)))/\Below W.heap.size W w':=by
  intro W hW;obtain⟨b',aj,px,sb,lb,pb,av,hN⟩:=h.node (by omega) (hG.node hi).1;obtain rfl:b'=b:=by rw [ae] at aj;exact(Option.some.inj aj).symm
  exact YM (px:=px) (sb:=sb) (lb:=lb) (pb:=pb) (av:=av) b' (zn S i) (t++ [i]) ow W ((zw.loc _ _ _ _ _ _ _ _).below hN hW) (hG.eraLen hi)
 have ag:zfc S i=((jN (zn S i)).2||S.nodes.any λn=>decide (yE (zn S i)<yE n)):=rfl;obtain⟨⟨pv,ay⟩,ao⟩:∃q,jN (zn S i)=q:=⟨_,rfl⟩;obtain⟨nx,ab⟩:∃n,yE (zn S i)=n:=⟨_,rfl⟩;rw [ao] at ai ag;rw [ab] at an ag;unfold okV at ai;simp only at ag;rw [ag];replace ai:=hid ai;replace an:=hid an;replace am:=hid am;replace ao:=hid ao;replace ab:=hid ab;replace ag:=hid ag;replace ae:=hid ae;clear h
 cases ay with
 |true=>
  go_enter func67,ntmps67
  go_wp2_with fail
  refine(ai.out _ (N2 _ _)).mono ?_;rintro e w1⟨rfl,ah⟩;go_wp2;go_ret
  exact⟨rfl,ah⟩
 |false=>
  simp only [Bool.false_or]
  go_enter func67,ntmps67
  go_wp2_with fail
  refine(ai.out _ (N2 _ _)).mono ?_;rintro e w1⟨rfl,ah⟩;have e1:=(hB.call ah).cell;have c1:w1.cell? ⟨K.nb,i,none⟩=some (.pointer (some ⟨b,0,none⟩)):=(ah.cell (jx aq)).trans aq;clear e0;go_wp2_with fail
  refine(an.out _ ah).mono ?_;rintro e w2⟨rfl,aw⟩;have ak:=ze ah aw;have e2:=(hB.call ak).cell;clear e1 c1;go_wp2
  go_loopw [35] (λp35 wr=>∃j:Nat,p35=.int .i64 (j:Nat)/\j<=S.nodes.length/\Below w.heap.size w wr/\(S.nodes.take j).any (λn=>decide (nx<yE n))=false) (λp35 _=>S.nodes.length - (intOf p35).toNat)
  case atStart=>exact⟨0,rfl,Nat.zero_le _,ak,by simp⟩
  case round=>
   obtain⟨j,rfl,hj,af,ad⟩:=hrel;clear e2
   by_cases hjN:j<S.nodes.length
   ·have t2:decide ((j:Int)<(S.nodes.length:Int))=true:=by simpa using hjN
    have y2:(0:Int)<=(j:Int):=by omega
    have y3:(j:Int)<(S.nodes.length:Int):=by omega
    have az:IntKind.i64.wrap ((j:Int)+1)=(j:Int)+1:=by rw [N8];omega
    obtain⟨bj, -,ar,al⟩:=am.out j hjN;have cj:wr.cell? ⟨K.nb,j,none⟩=some (.pointer (some ⟨bj,0,none⟩)):=(af.cell (jx ar)).trans ar;have aa:=zkO S.nodes (λn=>decide (nx<yE n)) (Qo hjN);rw [ad,Bool.false_or] at aa;replace al:=hid al;replace ad:=hid ad
    cases hlt:decide (nx<yE (zn S j))with
    |true=>
     have t4:decide ((nx:Int)<(yE (zn S j):Int))=true:=by simpa using hlt
     have ac:S.nodes.any (λn=>decide (nx<yE n))=true:=List.any_eq_true.2 ⟨_,List.mem_of_getElem? (Qo hjN),hlt⟩;replace aa:=hid aa;replace ac:=hid ac;go_wp2_with fail
     refine(al.out _ af).mono ?_;rintro e w3⟨rfl,ap⟩;go_wp2;go_ret
     exact⟨by rw [ac.out];rfl,ze af ap⟩
    |false=>
     have t4:decide ((nx:Int)<(yE (zn S j):Int))=false:=by simpa using hlt
     rw [hlt] at aa;replace aa:=hid aa;go_wp2_with fail
     refine(al.out _ af).mono ?_;rintro e w3⟨rfl,ap⟩;go_wp2
     go_roundw
     case rel=>exact⟨j+1,by simp,by omega,ze af ap,aa.out⟩
     case measure=>simp [intOf];omega
   obtain rfl:j=S.nodes.length:=by omega
   have t2:decide ((S.nodes.length:Int)<(S.nodes.length:Int))=false:=by simp
   rw [List.take_length] at ad;replace ad:=hid ad;go_wp2;go_ret
   exact⟨by rw [ad.out];rfl,af⟩
def zjl(S:zf)(i:Nat):Bool:= !(zn S i).down && !zfc S i
theorem QT(f:Nat->Bool)(j:Nat):(List.range (j+1)).all f=((List.range j).all f && f j):=by
 rw [List.range_succ];simp
theorem Qp(f:Nat->Bool){n j:Nat}(hj:j<n)(h:f j=false):(List.range n).all f=false:=by
 rw [List.all_eq_false];exact⟨j,List.mem_range.2 hj,by simp [h]⟩
theorem zhg(hG:zr v k0 L S)(h:zk B K tv lp S t ow w):
 Calls prog 27 #[.pointer (some ⟨B,0,none⟩)] w λe w'=>e=.returned (.bool (qV S))/\Below w.heap.size w w':=by
 have ar:=hG.n0;have hB:=h.blk;have e0:=hB.cell;have am:=Zw w h hG.notesN
 have an:∀j,j<S.nodes.length->∃b,w.cell? ⟨K.nb,j,none⟩=some (.pointer (some ⟨b,0,none⟩))/\∀W,Below w.heap.size w W->Calls prog 66 #[.pointer (some ⟨b,0,none⟩)] W λe w'=>e=.returned (.bool (zn S j).down)/\w'=W:=by
  intro j hj;obtain⟨b,aq,px,sb,lb,pb,av,hN⟩:=h.node (by omega) (hG.node hj).1;exact⟨b,h.nodeCell aq,λW hW=>Zx (px:=px) (sb:=sb) (lb:=lb) (pb:=pb) (av:=av) (n:=zn S j) (B:=b) W (hN.blk.call hW)⟩
 have ai:=λ(j:Nat) hj W (hW:Below w.heap.size w W)=>zfw hG j hj ((zk.loc B K tv lp S t).below h hW)
 have ak:qV S=(S.notes.isEmpty &&(List.range S.nodes.length).all (zjl S)):=rfl;rw [ak];obtain⟨eb,aj⟩:∃b,S.notes.isEmpty=b:=⟨_,rfl⟩
 have t0:((S.notes.length:Int)==0)=eb:=by
  rw [← aj]
  cases S.notes with
  |nil=>rfl
  |cons x l=>simp;omega
 rw [aj];replace am:=hid am;replace an:=hid an;replace ai:=hid ai;replace ak:=hid ak;replace aj:=hid aj;clear h;refine zl func27 rfl ?_;simp only [ntmps27,R8,Nat.reduceAdd,Nat.reduceSub];go_wp2;go_step3;go_wp2_with fail
 refine am.out.mono ?_;rintro e w1⟨rfl,ao⟩;go_wp2;go_step3;have e1:=(hB.call ao).cell;clear e0;go_wp2
 go_loopw [14,3] (λp14 p3 wr=>∃j:Nat,p14=.int .i64 (j:Nat)/\p3=.bool eb/\j<=S.nodes.length/\Below w.heap.size w wr/\(List.range j).all (zjl S)=true) (λp14 _ _=>S.nodes.length - (intOf p14).toNat)
 case atStart=>exact⟨0,rfl,rfl,Nat.zero_le _,ao,by simp⟩
 case round=>
  obtain⟨j,rfl,rfl,hj,ac,ab⟩:=hrel;clear e1
  by_cases hjN:j<S.nodes.length
  ·have t2:decide ((j:Int)<(S.nodes.length:Int))=true:=by simpa using hjN
   have y2:(0:Int)<=(j:Int):=by omega
   have y3:(j:Int)<(S.nodes.length:Int):=by omega
   have au:IntKind.i64.wrap ((j:Int)+1)=(j:Int)+1:=by rw [N8];omega
   obtain⟨bj,ap,ag⟩:=an.out j hjN;have cj:wr.cell? ⟨K.nb,j,none⟩=some (.pointer (some ⟨bj,0,none⟩)):=(ac.cell (jx ap)).trans ap;have af:=QT (zjl S) j;rw [ab,Bool.true_and] at af;have ad:=Qp (zjl S) hjN;have ae:zjl S j=(!(zn S j).down && !zfc S j):=rfl;replace ag:=hid ag;replace ab:=hid ab
   cases hd:(zn S j).down with
   |true=>
    have ad:=ad (by rw [ae,hd];rfl);rw [hd] at ag;replace ad:=hid ad;replace af:=hid af;replace ae:=hid ae;replace hd:=hid hd;go_wp2_with fail
    refine(ag.out _ ac).mono ?_;rintro e w3⟨rfl,ah⟩;obtain rfl:=ah.symm;go_wp2;rw [Exit.noGoto_ret];exact jp (v:=.bool false) (by simp [results,Tryz.results27,go_sem]) ⟨by rw [ad.out];simp,ac⟩
   |false=>
    rw [hd] at ag
    cases hu:zfc S j with
    |true=>
     have ad:=ad (by rw [ae,hd,hu];rfl);have aa:=ai.out j hjN _ ac;rw [hu] at aa;replace aa:=hid aa;replace ad:=hid ad;replace af:=hid af;replace ae:=hid ae;replace hd:=hid hd;replace hu:=hid hu;go_wp2_with fail
     refine(ag.out _ ac).mono ?_;rintro e w3⟨rfl,ah⟩;obtain rfl:=ah.symm;go_wp2_with fail
     refine aa.out.mono ?_;rintro e w3⟨rfl,al⟩;go_wp2;rw [Exit.noGoto_ret];exact jp (v:=.bool false) (by simp [results,Tryz.results27,go_sem]) ⟨by rw [ad.out];simp,ze ac al⟩
    |false=>
     rw [ae,hd,hu] at af;have aa:=ai.out j hjN _ ac;rw [hu] at aa;replace aa:=hid aa;replace af:=hid af;replace ae:=hid ae;replace hd:=hid hd;replace hu:=hid hu;go_wp2_with fail
     refine(ag.out _ ac).mono ?_;rintro e w3⟨rfl,ah⟩;obtain rfl:=ah.symm;go_wp2_with fail
     refine aa.out.mono ?_;rintro e w3⟨rfl,al⟩;go_wp2
     go_roundw
     case rel=>exact⟨j+1,by simp,rfl,by omega,ze ac al,af.out⟩
     case measure=>simp [intOf];omega
  obtain rfl:j=S.nodes.length:=by omega
  have t2:decide ((S.nodes.length:Int)<(S.nodes.length:Int))=false:=by simp
  replace ab:=hid ab;go_wp2;rw [Exit.noGoto_ret];exact jp (v:=.bool eb) (by simp [results,Tryz.results27,go_sem]) ⟨by rw [ab.out];simp,ac⟩
