/- PARTS OF THE PROOF. -/
import Derived.Test.YtofppfoioodblaaGreatDoorTC30
set_option maxRecDepth 8000
set_option maxHeartbeats 4000000
open Go.Proofs.Tryz
namespace Go.Proofs.YtofppfoioodblaaGreatDoor
section
open Go Go.RowKit Go.Shelf Go.Extern.Stop Go.Stop Go.Extern
attribute [local go_sem] Oper.semAt_some zB zp
theorem zcV {px sb lb pb:Nat}{av:Value}{n:zr}{t:List Nat}{ow:Own}{B:Nat}(i:Int)(w:World)(h:zy B px sb lb pb av n t ow w):Calls prog 200 #[.pointer (some ⟨B,0,none⟩),.int .i64 i] w λe w'=>e=.returned (.tuple #[.string (bs ((zE i n.pax.known).getD [])),.bool (zE i n.pax.known).isSome])/\Below w.heap.size w w':=by
 have hB:=h.blk;have hn:=Jb w hB;have hp:=Yv px n.pax (t++ [0]) ow i w h.pax;unfold zz at hB;have e0:=hB.cell;replace hn:=hid hn;replace hp:=hid hp;replace hB:=hid hB;clear h
 go_enter func200,ntmps200
 go_wp2_with fail
 refine hn.out.mono ?_;rintro e w1⟨rfl,rfl⟩;go_wp2_with fail
 refine hp.out.mono ?_;rintro e w1⟨rfl,aa⟩;go_wp2;go_ret2
 exact⟨rfl,aa⟩
theorem zl.nodeCell {B:Nat}{K:WK}{tv:Value}{lp:Nat->Option Nat}{S:zf}{t:List Nat}{ow:Own}{W:World}(h:zl B K tv lp S t ow W){i b:Nat}(hb:K.nl[i]?=some b):W.cell? ⟨K.nb,i,none⟩=some (.pointer (some ⟨b,0,none⟩)):=by
 obtain⟨-, -,hR⟩:=h.nrow
 rcases hR.src.2 with⟨h1,h2⟩|⟨g,off,cap,hv, -,hr⟩
 ·cases h1
 cases hv
 have:=hr i (.pointer (some ⟨b,0,none⟩)) (by unfold vK;rw [List.getElem?_map,hb];rfl)
 rwa [Nat.zero_add] at this
theorem yI.modFree {t:List Nat}(ht:t≠ []){A:Own->World->Prop}(hA:yI t A){ow:Own}{w w':World}(h:A ow w){v:Nat}(hv:ow v=[])(hM:Mod (λk=>k=v) w w'):A ow w':=
 hA _ _ _ _ h hM.size (λk hk hs=>⟨rfl,hM.block k hk (λe=>by subst e;rw [hv] at hs;exact zj ht hs)⟩)
theorem zt.modNew {t:List Nat}{ow ow':Own}{w w' w2:World}(h:zt t ow w ow' w'){v:Nat}(hv:w.heap.size<=v)(hM:Mod (λk=>k=v) w' w2):zt t ow w ow' w2:=
 ⟨h.mod.trans hM (λ_ _ e=>e) (λk hk e=>absurd e (by omega)),h.agree⟩
theorem zhb(B:Nat)(K:WK)(S:zf)(t:List Nat)(ht:t≠ [])(ow:Own)(i s:Nat)(hi:i<S.nodes.length)(hs:s<16)(k d:Int)(data:List UInt8)(inst:Int)(ballot:Nat)(hbl:ballot<18446744073709551616)(more:List UInt8)(hmr:more.length<=900000)(w:World)(h:zI B K S t ow w)(hg:zbe S)(hcap:vP (zo S i).store)
 (hkn:∀x,zE inst (zo S i).pax.known=some x->x.length<=900000) (hpr:(zC (zo S i) inst ballot).2.1.2.2.length<=900000):
 Calls prog 151 #[.pointer (some ⟨B,0,none⟩),.int .i64 i,J5 k s d data,x4 inst ballot,.string (bs more)] w (xK B K (yZ S i (qQ k s d data) inst ballot more) t ow w (.tuple #[])):=by
 obtain⟨tv,lp,hI⟩:=h;have am:i<16:=by have:=hg.n0;omega
 unfold x4 J5;obtain⟨W0,bd⟩:∃W0,W0=(w.alloc (.cells #[.int .i64 1,.int .i64 k,.int .i64 s,.int .i64 d,.int .u32 0,.int .u32 0,.int .u32 0,.int .u32 0,.string (bs data)] 182)).alloc (.cells #[.int .i64 inst,.int .u64 (ballot:Nat)] 171):=⟨_,rfl⟩;have br:Below w.heap.size w W0:=by rw [bd];exact pbx
 have ay:Blk W0 w.heap.size #[.int .i64 1,.int .i64 k,.int .i64 s,.int .i64 d,.int .u32 0,.int .u32 0,.int .u32 0,.int .u32 0,.string (bs data)] 182:=by rw [bd];exact bkx
 have aw:Blk W0 (w.heap.size+1) #[.int .i64 inst,.int .u64 (ballot:Nat)] 171:=by rw [bd];exact Blk.new (by simp)
 have be:=(zl.loc B K tv lp S t).cut hI br;have cj:(ow.cut w) w.heap.size=[]:=Own.cut_new (N0 _);have cl:(ow.cut w) (w.heap.size+1)=[]:=Own.cut_new (Nat.le_succ _);obtain⟨bb,b1⟩:∃o,ow.cut w=o:=⟨_,rfl⟩;rw [b1] at be cj cl;obtain⟨b,bo,px,sb,lb,pb,av,hN⟩:=be.node am (m:=zo S i) (by unfold zo;rw [N3 hi];rfl);have bk:=λW hW=>zcV (B:=b) (px:=px) (sb:=sb) (lb:=lb) (pb:=pb) (av:=av) (n:=zo S i) (t:=t++ [i]) (ow:=bb) inst W hW
 have a8:=be.nodeCell bo;have bn:=be.blk;obtain⟨N,cp⟩:∃N,S.nodes.length=N:=⟨_,rfl⟩;rw [cp] at hi;simp only [cp] at bn;have y0:(0:Int)<=(i:Int):=by omega
 have y1:(i:Int)<(N:Int):=by omega
 replace bk:=hid bk;replace bd:=hid bd;replace hkn:=hid hkn;replace bo:=hid bo;have c0:=ay.cell
 cases hlk:zE inst (zo S i).pax.known with
 |some x=>
  rw [hlk] at bk
  have ag:yZ S i (qQ k s d data) inst ballot more=QG S 7 i s (x6 inst ballot x):=by
   rw [VW (by have:=hg.last;omega)];unfold yZ;rw [hlk];rfl
  rw [ag];have cy:=hkn.out x hlk;have ax:=λv W hv=>Jh 7 i s inst ballot v [x] W hv (by simp) (by simp;omega)
  rw [show [x].flatten=x by simp] at ax;unfold x4 J5 at ax;have a3:=λW ow b hW hb=>Qb B K S t ow b 7 i s (by omega) am hs (x6 inst ballot x) (by unfold x6;rw [N1,show(le4 (inst % 4294967296).toNat++le8 ballot).length=12 from rfl];omega) W hW hg.notes (by have:=hg.last;omega) hb
  unfold zmv at a3
  generalize x6 inst ballot x=dat at*
  replace ax:=hid ax;replace a3:=hid a3;replace ag:=hid ag;replace hlk:=hid hlk
  go_enter func151,ntmps151
  go_wp2_with fail
  rw [← bd.out];refine zd [O 0,O 1,O 2,O 3,O 4,O 5,O 6,O 7,O 8,E 9,O 10,O 11,O 12,O 13,O 14] none (λw'=>w'.cell? ⟨K.nb,i,none⟩=some (.pointer (some ⟨b,0,none⟩))/\Blk w' B #[.slice (some ⟨K.nb,0,none⟩) N K.nc,.slice (some ⟨K.sb,0,none⟩) N N,.map (some K.lm),.pointer (some ⟨K.fb,0,none⟩),.map (some K.hm),.map (some K.dm),tv] 65/\Blk w' (w.heap.size+1) #[.int .i64 inst,.int .u64 (ballot:Nat)] 171/\True) ⟨a8,bn.drew,aw.drew,trivial⟩ ?_
  refine Wi ?_
  refine zc rfl (λJ hJ=>?_);go_wp2_with fail
  refine(bk.out _ ((zy.loc _ _ _ _ _ _ _ _).below hN (zq (N2 _ _)))).mono ?_;rintro e w1⟨rfl,b2⟩;have aa:Below W0.heap.size W0 w1:=zh (zq (N2 _ _)) b2;have ap:w1.cell? ⟨K.nb,i,none⟩=some (.pointer (some ⟨b,0,none⟩)):=(aa.cell (p:=⟨K.nb,i,none⟩) (jO a8)).trans a8;go_wp2;refine hJ.out _ _ (λ_=>⟨ap,bn.call aa,aw.call aa,trivial⟩) ?_;clear hJ J
  refine Wi ?_
  refine ze ?_;clear c0 ap;have ao:=aw.call aa;have c1:=(ay.call aa).cell;have d1:=ao.cell;go_wp2_with fail
  refine(ax.out _ _ (jP (n:=1) (size:=1) (cap:=1) (Blk.new rfl) rfl (N0 1))).mono ?_;rintro e w3⟨rfl,cb⟩;have b9:Below W0.heap.size W0 w3:=zh (zi aa _) cb;go_wp2_with fail
  obtain⟨W4,bm⟩:∃W4,W4=w3.alloc (.cells #[.int .i64 1,.int .i64 7,.int .i64 i,.int .i64 s,.int .u32 0,.int .u32 0,.int .u32 0,.int .u32 0,.string (bs dat)] 182):=⟨_,rfl⟩;have b4:Below W0.heap.size W0 W4:=by rw [bm];exact zi b9 _
  have k4:Blk W4 w3.heap.size #[.int .i64 1,.int .i64 7,.int .i64 i,.int .i64 s,.int .u32 0,.int .u32 0,.int .u32 0,.int .u32 0,.string (bs dat)] 182:=by rw [bm];exact Blk.new rfl
  rw [← bm];refine(a3.out W4 (bb.cut W0) _ ⟨tv,lp,(zl.loc B K tv lp S t).cut be b4⟩ k4).mono ?_;rintro e w5⟨rfl,cc,ce,co⟩;go_wp2;go_end0
  exact⟨rfl,cc,zt.wrap br (by rw [b1];exact zt.wrap b4 ce),co⟩
 |none=>
  rw [hlk] at bk;have a9:t++ [i] ≠ []:=by simp
  have aq:=λkk W=>Jh kk i s inst ballot (.slice none 0 0) [] W ⟨rfl,.inl ⟨rfl,rfl⟩⟩ (by simp) (by simp)
  have a3:=λS' kk (hkk:kk<=31) dat (hdl:dat.length<=1000000) W ow b hW h1 h2 hb=>Qb B K S' t ow b kk i s hkk am hs dat hdl W hW h1 h2 hb
  rw [show([]:List (List UInt8)).flatten=[] from rfl] at aq;unfold x4 J5 at aq;unfold zmv at a3;replace a3:=hid a3
  by_cases hk5:k=5
  ·subst hk5
   obtain⟨m',er,a5⟩:∃a b,yS (zo S i) inst ballot more=(a,b):=⟨_,_,rfl⟩
   have ag:yZ S i (qQ 5 s d data) inst ballot more=if er=0 then QG (setNode S i m') 6 i s (x6 inst ballot [])else setNode S i m':=by
    rw [VW (by have:=hg.last;unfold setNode;simp only;omega)];unfold yZ;rw [hlk];simp only [qQ,if_true,a5];rfl
   obtain⟨S',ar⟩:∃S',(if er=0 then QG (setNode S i m') 6 i s (x6 inst ballot [])else setNode S i m')=S':=⟨_,rfl⟩;rw [ag,ar];replace ar:=hid ar;have ai:=λW ow hN=>ziL (px:=px) (sb:=sb) (lb:=lb) (pb:=pb) (av:=av) b (zo S i) (t++ [i]) a9 ow inst ballot hbl more (by omega) W hN hcap
   rw [a5] at ai;simp only at ai;replace hlk:=hid hlk;replace ai:=hid ai;replace aq:=hid aq;replace ag:=hid ag;replace a5:=hid a5
   go_enter func151,ntmps151
   go_wp2_with fail
   rw [← bd.out];refine zd [O 0,O 1,O 2,O 3,O 4,O 5,O 6,O 7,O 8,E 9,O 10,O 11,O 12,O 13,O 14] none (λw'=>w'.cell? ⟨K.nb,i,none⟩=some (.pointer (some ⟨b,0,none⟩))/\Blk w' B #[.slice (some ⟨K.nb,0,none⟩) N K.nc,.slice (some ⟨K.sb,0,none⟩) N N,.map (some K.lm),.pointer (some ⟨K.fb,0,none⟩),.map (some K.hm),.map (some K.dm),tv] 65/\Blk w' (w.heap.size+1) #[.int .i64 inst,.int .u64 (ballot:Nat)] 171/\True) ⟨a8,bn.drew,aw.drew,trivial⟩ ?_
   refine Wi ?_
   refine zc rfl (λJ hJ=>?_);go_wp2_with fail
   refine(bk.out _ ((zy.loc _ _ _ _ _ _ _ _).below hN (zq (N2 _ _)))).mono ?_;rintro e w1⟨rfl,b2⟩;have aa:Below W0.heap.size W0 w1:=zh (zq (N2 _ _)) b2;have ap:w1.cell? ⟨K.nb,i,none⟩=some (.pointer (some ⟨b,0,none⟩)):=(aa.cell (p:=⟨K.nb,i,none⟩) (jO a8)).trans a8;have a7:=bn.call aa;have ao:=aw.call aa;go_wp2;refine hJ.out _ _ (λ_=>⟨ap,a7,ao,trivial⟩) ?_;clear hJ J
   refine Wi ?_
   refine ze ?_;clear c0;have c1:=(ay.call aa).cell;go_wp2_with fail
   have a2:Below W0.heap.size W0 w1.drew:=zq aa;have bt:=(zl.loc B K tv lp S t).cut be a2;have b0:=(zy.loc _ _ _ _ _ _ _ _).cut hN a2;have bq:(bb.cut W0) (w.heap.size+1)=[]:=(Own.cut_old aw.lt).trans cl;have bu:(bb.cut W0) w.heap.size=[]:=(Own.cut_old ay.lt).trans cj;obtain⟨cv,bj⟩:∃o,bb.cut W0=o:=⟨_,rfl⟩;rw [bj] at bt b0 bq bu;refine zd [O 0,O 1,O 2,O 3,O 4,O 5,O 6,O 7,O 8,O 9,O 10,O 11,E 12,O 13] none (λw'=>w'.cell? ⟨K.nb,i,none⟩=some (.pointer (some ⟨b,0,none⟩))/\Blk w' B #[.slice (some ⟨K.nb,0,none⟩) N K.nc,.slice (some ⟨K.sb,0,none⟩) N N,.map (some K.lm),.pointer (some ⟨K.fb,0,none⟩),.map (some K.hm),.map (some K.dm),tv] 65/\Blk w' (w.heap.size+1) #[.int .i64 inst,.int .u64 (ballot:Nat)] 171/\True) ⟨ap,a7.drew,ao.drew,trivial⟩ ?_
   refine Wi ?_
   refine zc rfl (λJ hJ=>?_);go_wp2_with fail
   refine(ai.out _ _ b0).mono ?_;rintro e w2⟨rfl,az,aj,bv⟩;have bg:=bt.setNode am bo.out aj bv;have bl:=ao.drew.kept (aj.block ao.drew.lt (by rw [bq];exact zj a9));have bp:=(ay.call a2).kept (aj.block (ay.call a2).lt (by rw [bu];exact zj a9));have au:zt t ow w az w2:=zt.wrap br (by rw [b1];exact zt.wrap a2 (by rw [bj];exact aj.mono (Sub.child t i)));have cu:=a7.drew.kept (aj.block a7.drew.lt (qU t i bt.own));have cq:=bg.nodeCell bo.out;go_wp2;refine hJ.out _ _ (λ_=>⟨cq,cu,bl,trivial⟩) ?_;clear hJ J c1 ap cq
   refine Wi ?_
   refine ze ?_;have c2:=bp.cell;have d2:=bl.cell
   by_cases he:er=0
   ·subst he
    have ae:=ar.out;rw [if_pos rfl] at ae;have al:zbe (setNode S i m'):=⟨hg.notes,hg.last,by simpa [setNode] using hg.n0⟩;have ah:=λdat hdl W ow b hW hb=>a3.out (setNode S i m') 6 (by omega) dat hdl W ow b hW al.notes (by have:=al.last;omega) hb
    replace ah:=hid ah;replace ae:=hid ae;replace al:=hid al;go_wp2_with fail
    refine(aq.out _ _).mono ?_;rintro e w3⟨rfl,cb⟩;go_wp2_with fail
    obtain⟨W4,bm⟩:∃W4,W4=w3.alloc (.cells #[.int .i64 1,.int .i64 6,.int .i64 i,.int .i64 s,.int .u32 0,.int .u32 0,.int .u32 0,.int .u32 0,.string (bs (x6 inst ballot []))] 182):=⟨_,rfl⟩;have b3:Below w2.heap.size w2 W4:=by rw [bm];exact zi cb _
    have k4:Blk W4 w3.heap.size #[.int .i64 1,.int .i64 6,.int .i64 i,.int .i64 s,.int .u32 0,.int .u32 0,.int .u32 0,.int .u32 0,.string (bs (x6 inst ballot []))] 182:=by rw [bm];exact Blk.new rfl
    rw [← bm];refine(ah.out _ (by unfold x6;rw [N1,show(le4 (inst % 4294967296).toNat++le8 ballot).length=12 from rfl];simp) W4 (az.cut w2) _ ⟨tv,lp,(zl.loc B K tv lp _ t).cut bg b3⟩ k4).mono ?_;rintro e w5⟨rfl,cc,ce,co⟩;go_wp2;go_end0
    exact⟨rfl,cc,au.trans (zt.wrap b3 ce),by rw [← ae.out];exact co⟩
   have t2:(er==0)=false:=by simpa using he
   have ae:=ar.out;rw [if_neg he] at ae;clear he;go_wp2;go_end0
   exact⟨rfl,az,au,by rw [← ae];exact⟨tv,lp,bg⟩⟩
  obtain⟨m',⟨v1,v2,v3⟩,er,a5⟩:∃a v b,zC (zo S i) inst ballot=(a,v,b):=⟨_,_,_,rfl⟩
  rw [a5] at hpr;simp only at hpr;have tk:(k==5)=false:=by simpa using hk5
  have ag:yZ S i (qQ k s d data) inst ballot more=if er=0 then QG (setNode S i m') 4 i s (x6 inst ballot (le8 v2++v3))else setNode S i m':=by
   rw [VW (by have:=hg.last;unfold setNode;simp only;omega)];unfold yZ;rw [hlk];simp only [qQ,if_neg hk5,a5];rfl
  obtain⟨S',ar⟩:∃S',(if er=0 then QG (setNode S i m') 4 i s (x6 inst ballot (le8 v2++v3))else setNode S i m')=S':=⟨_,rfl⟩;rw [ag,ar];replace ar:=hid ar;have af:=λW ow hN=>zcr (px:=px) (sb:=sb) (lb:=lb) (pb:=pb) (av:=av) b (zo S i) (t++ [i]) a9 ow inst ballot hbl W hN hcap
  rw [a5] at af;unfold zaX y6 at af;simp only at af;have ax:=λv W hv=>Jh 4 i s inst ballot v [le8 v2,v3] W hv (by simp) (by rw [show [le8 v2,v3].flatten=le8 v2++v3 by simp,N1,show(le8 v2).length=8 from rfl];omega)
  rw [show [le8 v2,v3].flatten=le8 v2++v3 by simp] at ax;unfold x4 J5 at ax;have a6:=λW=>zfs v2 W
  clear hk5 aq;replace a6:=hid a6;replace ax:=hid ax;replace hlk:=hid hlk;replace af:=hid af;replace ag:=hid ag;replace a5:=hid a5
  go_enter func151,ntmps151
  go_wp2_with fail
  rw [← bd.out];refine zd [O 0,O 1,O 2,O 3,O 4,O 5,O 6,O 7,O 8,E 9,O 10,O 11,O 12,O 13,O 14] none (λw'=>w'.cell? ⟨K.nb,i,none⟩=some (.pointer (some ⟨b,0,none⟩))/\Blk w' B #[.slice (some ⟨K.nb,0,none⟩) N K.nc,.slice (some ⟨K.sb,0,none⟩) N N,.map (some K.lm),.pointer (some ⟨K.fb,0,none⟩),.map (some K.hm),.map (some K.dm),tv] 65/\Blk w' (w.heap.size+1) #[.int .i64 inst,.int .u64 (ballot:Nat)] 171/\True) ⟨a8,bn.drew,aw.drew,trivial⟩ ?_
  refine Wi ?_
  refine zc rfl (λJ hJ=>?_);go_wp2_with fail
  refine(bk.out _ ((zy.loc _ _ _ _ _ _ _ _).below hN (zq (N2 _ _)))).mono ?_;rintro e w1⟨rfl,b2⟩;have aa:Below W0.heap.size W0 w1:=zh (zq (N2 _ _)) b2;have ap:w1.cell? ⟨K.nb,i,none⟩=some (.pointer (some ⟨b,0,none⟩)):=(aa.cell (p:=⟨K.nb,i,none⟩) (jO a8)).trans a8;have a7:=bn.call aa;have ao:=aw.call aa;go_wp2;refine hJ.out _ _ (λ_=>⟨ap,a7,ao,trivial⟩) ?_;clear hJ J
  refine Wi ?_
  refine ze ?_;clear c0;have c1:=(ay.call aa).cell;go_wp2_with fail
  have a2:Below W0.heap.size W0 w1.drew:=zq aa;have bt:=(zl.loc B K tv lp S t).cut be a2;have b0:=(zy.loc _ _ _ _ _ _ _ _).cut hN a2;have bq:(bb.cut W0) (w.heap.size+1)=[]:=(Own.cut_old aw.lt).trans cl;have bu:(bb.cut W0) w.heap.size=[]:=(Own.cut_old ay.lt).trans cj;obtain⟨cv,bj⟩:∃o,bb.cut W0=o:=⟨_,rfl⟩;rw [bj] at bt b0 bq bu;refine xF [O 0,O 1,O 2,O 3,O 4,O 5,O 6,O 7,O 8,O 9,O 10] (some 11) (λw'=>w'.cell? ⟨K.nb,i,none⟩=some (.pointer (some ⟨b,0,none⟩))/\Blk w' B #[.slice (some ⟨K.nb,0,none⟩) N K.nc,.slice (some ⟨K.sb,0,none⟩) N N,.map (some K.lm),.pointer (some ⟨K.fb,0,none⟩),.map (some K.hm),.map (some K.dm),tv] 65/\Blk w' (w.heap.size+1) #[.int .i64 inst,.int .u64 (ballot:Nat)] 171/\True) #[true,true,true,true,true,true,true,true,true,true,true,false,false,false,false,false,false,false] (m:=7) (by kernel_rfl) (by kernel_rfl) ⟨ap,a7.drew,ao.drew,trivial⟩ ?_
  (repeat (refine zF (v:=?_) rfl rfl (λw' h=>?_) (λK k=>?_);rotate_left;obtain⟨f1,f2,f3,_⟩:=h;have e2:=f2.cell;have e3:=f3.cell;go_simp;(try with_reducible rfl);go_simp;refine k _ ?_;clear k K))
  refine jM (λ_=>?_);refine zcx 11 [15] (by kernel_rfl) ?_ (zan ?_ zcy)
  ·refine zcA rfl (by decide) (λJ hJ=>?_)
   go_wp2_with fail
   refine(af.out _ _ b0).mono ?_;rintro e w2⟨rfl,az,aj,bv⟩;have bg:=bt.setNode am bo.out aj bv;have bl:=ao.drew.kept (aj.block ao.drew.lt (by rw [bq];exact zj a9));have bp:=(ay.call a2).kept (aj.block (ay.call a2).lt (by rw [bu];exact zj a9));have au:zt t ow w az w2:=zt.wrap br (by rw [b1];exact zt.wrap a2 (by rw [bj];exact aj.mono (Sub.child t i)));go_wp2;refine hJ.out _ _ ?_;clear hJ J c1 ap;refine qV [O 12,O 13,O 14,E 15,E 16,O 17] (by kernel_rfl) (λ_=>trivial) ?_
   refine Wg ?_
   refine yP rfl (by simp) (λJ hJ=>?_);go_wp2;refine hJ.out _ _ trivial ?_;clear hJ J;refine yP rfl (by simp) (λJ hJ=>?_);go_wp2;refine hJ.out _ _ trivial ?_;clear hJ J
   refine Wg ?_
   refine jM ?_;obtain⟨w3,bc⟩:∃x,x=w2.alloc (.cells #[.int .u64 (v1:Nat),.int .u64 (v2:Nat),.string (bs v3)] 317):=⟨_,rfl⟩;have ba:Below w2.heap.size w2 w3:=by rw [bc];exact zi (N2 _ _) _
   have a4:Blk w3 w2.heap.size #[.int .u64 (v1:Nat),.int .u64 (v2:Nat),.string (bs v3)] 317:=by rw [bc];exact Blk.new rfl
   rw [← bc];clear bc;have bi:=(zl.loc B K tv lp _ t).cut bg ba;have a0:=bl.call ba;have an:=bp.call ba;have ak:zt t ow w (az.cut w2) w3:=au.trans (zt.wrap ba (zt.refl _ _ _));obtain⟨b5,bw⟩:∃o,az.cut w2=o:=⟨_,rfl⟩;rw [bw] at bi ak;clear bw
   generalize w2.heap.size=vb at*
   have c3:=an.cell
   by_cases he:er=0
   ·subst he
    have ae:=ar.out;rw [if_pos rfl] at ae;have al:zbe (setNode S i m'):=⟨hg.notes,hg.last,by simpa [setNode] using hg.n0⟩;have ah:=λW ow b hW hb=>a3.out (setNode S i m') 4 (by omega) (x6 inst ballot (le8 v2++v3)) (by unfold x6;rw [N1,show(le4 (inst % 4294967296).toNat++le8 ballot).length=12 from(by rw [N1];rfl),N1,show(le8 v2).length=8 from rfl];omega) W ow b hW al.notes (by have:=al.last;omega) hb
    generalize x6 inst ballot (le8 v2++v3)=dat at*
    replace ah:=hid ah;replace ae:=hid ae;replace al:=hid al;clear c3;go_wp2_with fail
    refine zd [O 0,O 1,O 2,O 3,O 4,O 5,O 6,O 8,O 9,E 7,E 10,E 11,E 12,E 13] (some 13) (λw'=>Blk w' w.heap.size #[.int .i64 1,.int .i64 k,.int .i64 s,.int .i64 d,.int .u32 0,.int .u32 0,.int .u32 0,.int .u32 0,.string (bs data)] 182/\Blk w' (w.heap.size+1) #[.int .i64 inst,.int .u64 (ballot:Nat)] 171/\Blk w' vb #[.int .u64 (v1:Nat),.int .u64 (v2:Nat),.string (bs v3)] 317/\True) ⟨an.drew,a0.drew,a4.drew,trivial⟩ ?_
    refine Wm ?_
    refine zc rfl (λJ hJ=>?_);go_wp2_with fail
    refine(a6.out _).mono ?_;rintro e w4⟨rfl,cd⟩;have ac:Below w3.heap.size w3 w4:=zh (zq (N2 _ _)) cd;go_wp2;refine hJ.out _ _ (λ_=>⟨an.call ac,a0.call ac,a4.call ac,trivial⟩) ?_;clear hJ J;refine zc rfl (λJ hJ=>?_);go_wp2;refine hJ.out _ _ (λ_=>⟨(an.call ac).alloc _,(a0.call ac).alloc _,(a4.call ac).alloc _,trivial⟩) ?_;clear hJ J;refine zc rfl (λJ hJ=>?_);go_wp2_with fail
    refine(ax.out _ _ (jP (n:=2) (size:=1) (cap:=2) (Blk.new rfl) rfl (N0 2))).mono ?_;rintro e w5⟨rfl,ci⟩;have ad:Below w3.heap.size w3 w5:=zh (zi ac _) ci;go_wp2;refine hJ.out _ _ (λ_=>⟨an.call ad,a0.call ad,a4.call ad,trivial⟩) ?_;clear hJ J;refine zc rfl (λJ hJ=>?_);go_wp2;refine hJ.out _ _ (λ_=>⟨(an.call ad).alloc _,(a0.call ad).alloc _,(a4.call ad).alloc _,trivial⟩) ?_;clear hJ J;refine zc rfl (λJ hJ=>?_);go_wp2_with fail
    obtain⟨W6,bh⟩:∃W6,W6=w5.alloc (.cells #[.int .i64 1,.int .i64 4,.int .i64 i,.int .i64 s,.int .u32 0,.int .u32 0,.int .u32 0,.int .u32 0,.string (bs dat)] 182):=⟨_,rfl⟩;have a1:Below w3.heap.size w3 W6:=by rw [bh];exact zi ad _
    have k6:Blk W6 w5.heap.size #[.int .i64 1,.int .i64 4,.int .i64 i,.int .i64 s,.int .u32 0,.int .u32 0,.int .u32 0,.int .u32 0,.string (bs dat)] 182:=by rw [bh];exact Blk.new rfl
    rw [← bh];refine(ah.out W6 (b5.cut w3) _ ⟨tv,lp,(zl.loc B K tv lp _ t).cut bi a1⟩ k6).mono ?_;rintro e w7⟨rfl,ck,cn,cf⟩;go_wp2;refine hJ.out _ _ (λhh=>absurd rfl hh) ?_;clear hJ J;refine ze ?_;go_wp2;go_end0
    exact⟨rfl,ck,ak.trans (zt.wrap a1 cn),by rw [← ae.out];exact cf⟩
   have t2:(er==0)=false:=by simpa using he
   have ae:=ar.out;rw [if_neg he] at ae;clear he;go_wp2;go_end0
   exact⟨rfl,b5,ak,by rw [← ae];exact⟨tv,lp,bi⟩⟩
  refine zcz rfl (λJ hJ=>?_)
  go_wp2;refine hJ.out _ _ ⟨jI (w:=w1) ap _,a7.alloc _,ao.alloc _,trivial⟩ ?_;clear hJ J;obtain⟨wA,b6⟩:∃x,x=(w1.alloc (.cells #[.int .u64 0,.int .u64 0,.string ⟨#[]⟩] 317)).drew:=⟨_,rfl⟩;refine qV [E 11,O 12,O 13,O 14,E 16,O 17] (by kernel_rfl) (λ_=>⟨jI (w:=w1) ap _,a7.alloc _,ao.alloc _,trivial⟩) ?_;refine vj rfl (λJ hJ=>?_);go_wp2_with fail
  have bf:Below W0.heap.size W0 (w1.alloc (.cells #[.int .u64 0,.int .u64 0,.string ⟨#[]⟩] 317)).drew:=zq (zi aa _);have ch:=(zl.loc B K tv lp S t).cut be bf;have cm:=(zy.loc _ _ _ _ _ _ _ _).cut hN bf;have bz:=aa.size;have ca:(bb.cut W0) w1.heap.size=[]:=Own.cut_new bz;rw [bj] at ch cm ca;obtain⟨wA,b6⟩:∃x,x=(w1.alloc (.cells #[.int .u64 0,.int .u64 0,.string ⟨#[]⟩] 317)).drew:=⟨_,rfl⟩;have cg:Blk wA w1.heap.size #[.int .u64 0,.int .u64 0,.string ⟨#[]⟩] 317:=by rw [b6];exact(Blk.new rfl).drew
  rw [← b6] at bf ch cm⊢;clear b6;refine(af.out _ _ cm).mono ?_;rintro e w2⟨rfl,az,aj,bv⟩;have bg:=ch.setNode am bo.out aj bv;have bl:=(aw.call bf).kept (aj.block (aw.call bf).lt (by rw [bq];exact zj a9));have bp:=(ay.call bf).kept (aj.block (ay.call bf).lt (by rw [bu];exact zj a9));have b8:=cg.kept (aj.block cg.lt (by rw [ca];exact zj a9));have cw:az w1.heap.size=[]:=(aj.agree _ cg.lt).trans ca;have au:zt t ow w az w2:=zt.wrap br (by rw [b1];exact zt.wrap bf (by rw [bj];exact aj.mono (Sub.child t i)));have cr:=b8.cell;have cs:=b8.frozen;have ct:=b8.lt;go_wp2;refine hJ.out _ _ ?_;clear hJ J c1 ap
  refine Wg ?_
  refine yP rfl (by simp) (λJ hJ=>?_);go_wp2;refine hJ.out _ _ trivial ?_;clear hJ J cr cs ct
  refine Wg ?_
  refine jM ?_;obtain⟨w3,bc⟩:∃x,x=((w2.setCell ⟨w1.heap.size,0,none⟩ (.int .u64 (v1:Nat))).setCell ⟨w1.heap.size,1,none⟩ (.int .u64 (v2:Nat))).setCell ⟨w1.heap.size,2,none⟩ (.string (bs v3)):=⟨_,rfl⟩;have b7:Mod (λk=>k=w1.heap.size) w2 w3:=by rw [bc];exact(((Mod.refl (λk=>k=w1.heap.size) w2).thenSet (p:=⟨w1.heap.size,0,none⟩) rfl _).thenSet (p:=⟨w1.heap.size,1,none⟩) rfl _).thenSet (p:=⟨w1.heap.size,2,none⟩) rfl _
  have a4:Blk w3 w1.heap.size #[.int .u64 (v1:Nat),.int .u64 (v2:Nat),.string (bs v3)] 317:=by rw [bc];exact((b8.set (o:=0) _).set (o:=1) _).set (o:=2) _
  rw [← bc];clear bc;have bi:=(zl.loc B K tv lp _ t).modFree ht bg cw b7;have cz:=br.size;have cx:w.heap.size+1<w1.heap.size:=by have:=aw.lt;omega
  have a0:=bl.kept (b7.block _ bl.lt (λe=>by omega));have an:=bp.kept (b7.block _ bp.lt (λe=>by omega));have ak:=au.modNew (by omega) b7;obtain⟨b5,bw⟩:∃o,az=o:=⟨_,rfl⟩;rw [bw] at bi ak;clear bw
  generalize w1.heap.size=vb at*
  have c3:=an.cell
  by_cases he:er=0
  ·subst he
   have ae:=ar.out;rw [if_pos rfl] at ae;have al:zbe (setNode S i m'):=⟨hg.notes,hg.last,by simpa [setNode] using hg.n0⟩;have ah:=λW ow b hW hb=>a3.out (setNode S i m') 4 (by omega) (x6 inst ballot (le8 v2++v3)) (by unfold x6;rw [N1,show(le4 (inst % 4294967296).toNat++le8 ballot).length=12 from(by rw [N1];rfl),N1,show(le8 v2).length=8 from rfl];omega) W ow b hW al.notes (by have:=al.last;omega) hb
   generalize x6 inst ballot (le8 v2++v3)=dat at*
   replace ah:=hid ah;replace ae:=hid ae;replace al:=hid al;clear c3;go_wp2_with fail
   refine zd [O 0,O 1,O 2,O 3,O 4,O 5,O 6,O 8,O 9,E 7,E 10,E 11,E 12,E 13] (some 13) (λw'=>Blk w' w.heap.size #[.int .i64 1,.int .i64 k,.int .i64 s,.int .i64 d,.int .u32 0,.int .u32 0,.int .u32 0,.int .u32 0,.string (bs data)] 182/\Blk w' (w.heap.size+1) #[.int .i64 inst,.int .u64 (ballot:Nat)] 171/\Blk w' vb #[.int .u64 (v1:Nat),.int .u64 (v2:Nat),.string (bs v3)] 317/\True) ⟨an.drew,a0.drew,a4.drew,trivial⟩ ?_
   refine Wm ?_
   refine zc rfl (λJ hJ=>?_);go_wp2_with fail
   refine(a6.out _).mono ?_;rintro e w4⟨rfl,cd⟩;have ac:Below w3.heap.size w3 w4:=zh (zq (N2 _ _)) cd;go_wp2;refine hJ.out _ _ (λ_=>⟨an.call ac,a0.call ac,a4.call ac,trivial⟩) ?_;clear hJ J;refine zc rfl (λJ hJ=>?_);go_wp2;refine hJ.out _ _ (λ_=>⟨(an.call ac).alloc _,(a0.call ac).alloc _,(a4.call ac).alloc _,trivial⟩) ?_;clear hJ J;refine zc rfl (λJ hJ=>?_);go_wp2_with fail
   refine(ax.out _ _ (jP (n:=2) (size:=1) (cap:=2) (Blk.new rfl) rfl (N0 2))).mono ?_;rintro e w5⟨rfl,ci⟩;have ad:Below w3.heap.size w3 w5:=zh (zi ac _) ci;go_wp2;refine hJ.out _ _ (λ_=>⟨an.call ad,a0.call ad,a4.call ad,trivial⟩) ?_;clear hJ J;refine zc rfl (λJ hJ=>?_);go_wp2;refine hJ.out _ _ (λ_=>⟨(an.call ad).alloc _,(a0.call ad).alloc _,(a4.call ad).alloc _,trivial⟩) ?_;clear hJ J;refine zc rfl (λJ hJ=>?_);go_wp2_with fail
   obtain⟨W6,bh⟩:∃W6,W6=w5.alloc (.cells #[.int .i64 1,.int .i64 4,.int .i64 i,.int .i64 s,.int .u32 0,.int .u32 0,.int .u32 0,.int .u32 0,.string (bs dat)] 182):=⟨_,rfl⟩;have a1:Below w3.heap.size w3 W6:=by rw [bh];exact zi ad _
   have k6:Blk W6 w5.heap.size #[.int .i64 1,.int .i64 4,.int .i64 i,.int .i64 s,.int .u32 0,.int .u32 0,.int .u32 0,.int .u32 0,.string (bs dat)] 182:=by rw [bh];exact Blk.new rfl
   rw [← bh];refine(ah.out W6 (b5.cut w3) _ ⟨tv,lp,(zl.loc B K tv lp _ t).cut bi a1⟩ k6).mono ?_;rintro e w7⟨rfl,ck,cn,cf⟩;go_wp2;refine hJ.out _ _ (λhh=>absurd rfl hh) ?_;clear hJ J;refine ze ?_;go_wp2;go_end0
   exact⟨rfl,ck,ak.trans (zt.wrap a1 cn),by rw [← ae.out];exact cf⟩
  have t2:(er==0)=false:=by simpa using he
  have ae:=ar.out;rw [if_neg he] at ae;clear he;go_wp2;go_end0
  exact⟨rfl,b5,ak,by rw [← ae];exact⟨tv,lp,bi⟩⟩
end
section
def zk3(p:xH):Prop:=∀i x,zE i p.known=some x->x.length<=4000
theorem zhc {p:xH}(h:zk3 p)(i:Int)(x:List UInt8):zk3 (zV p i x).1:=by
 unfold zV
 split
 ·exact h
 rename_i hx
 split
 ·split<;>exact h
 intro j y hj
 simp only at hj;rw [yE] at hj
 split at hj
 ·cases hj;omega
 exact h j y hj
theorem zeq {p:xH}(h:zk3 p)(s:List UInt8):zk3 (yL p s):=by
 unfold yL
 split
 ·exact h
 split
 ·exact zhc h _ _
 split
 ·exact h
 exact h
theorem zlL(l:List (List UInt8)):zk3 (RR l).2:=by
 unfold RR
 suffices H:∀(l:List (List UInt8)) (q:List zA×xH),zk3 q.2->zk3 (l.foldl jY q).2 from H l _ (λi x h=>by simp [xl,zE] at h)
 intro l
 induction l with
 |nil=>intro q h;exact h
 |cons r l ih=>
  intro q h;refine ih _ ?_;unfold jY
  split
  ·exact h
  split
  ·exact h
  exact zeq h _
theorem yO.klen {v:Int}{n:zr}(h:yO v n)(hd:n.down=false):zk3 n.pax:=by
 obtain⟨⟨l,hi⟩, -⟩:=h.ok;rw [(hi.up hd).2.2];exact zlL l
theorem zcW(n:zr)(i:Int)(b:Nat):(zC n i b).2.1.2.2.length<=4000:=by
 have hv:∀v,(yu v b).1.2.2.length<=4000:=λv=>by
  unfold yu
  split
  ·simp
  rename_i h1
  split
  ·simp
  have h2:yn v=true:=by
   by_cases hh:yn v=true
   ·exact hh
   exact absurd (.inl (by simpa using hh)) h1
  unfold yn at h2;simp only [Bool.and_eq_true,decide_eq_true_eq] at h2;exact h2.2
 have hp:(zD n.pax i b).2.1.2.2.length<=4000:=by
  unfold zD
  split
  ·simp
  split
  ·simp
  exact hv _
 unfold zC
 split
 ·simp
 split
 ·simp
 split
 ·simp
 exact hp
end
open Go Go.RowKit Go.Shelf Go.Extern.Stop Go.Stop Go.Extern
attribute [local go_sem] Oper.semAt_some zB zp
theorem jD:∀ {l:List jN} {i j:Nat} {s:jN},l[i]?=some s->j<5->(l.flatMap j6)[i*5+j]?=(j6 s)[j]?
 | [],i,j,s,h,_=>by simp at h
 |x::l,0,j,s,h,hj=>by
  simp only [List.getElem?_cons_zero,Option.some.injEq] at h;subst h;rw [List.flatMap_cons,U8 (by simp only [j6,List.length_cons,List.length_nil];omega),Nat.zero_mul,Nat.zero_add]
 |x::l,i+1,j,s,h,hj=>by
  simp only [List.getElem?_cons_succ] at h;rw [List.flatMap_cons,U6 (by simp only [j6,List.length_cons,List.length_nil];omega)];have:=jD h hj;rw [← this]
  congr 1
  simp only [j6,List.length_cons,List.length_nil];omega
theorem zcX {v:Value}{j:Nat}{s s':jN}(hj:j<5)(he:(j6 s).set j v=j6 s'):∀ {l:List jN} {i:Nat},l[i]?=some s->(l.flatMap j6).set (i*5+j) v=(l.set i s').flatMap j6
 | [],i,h=>by simp at h
 |x::l,0,h=>by
  simp only [List.getElem?_cons_zero,Option.some.injEq] at h;subst h;rw [List.set_cons_zero,List.flatMap_cons,List.flatMap_cons,List.set_append_left _ _ (by simp only [j6,List.length_cons,List.length_nil];omega),Nat.zero_mul,Nat.zero_add,he]
 |x::l,i+1,h=>by
  simp only [List.getElem?_cons_succ] at h;have h5:(j6 x).length=5:=rfl;rw [List.set_cons_succ,List.flatMap_cons,List.flatMap_cons,List.set_append_right _ _ (by rw [h5];omega),h5,show(i+1)*5+j - 5=i*5+j by omega,zcX hj he h]
theorem zl.setSeat {B:Nat}{K:WK}{tv:Value}{lp:Nat->Option Nat}{S:zf}{t:List Nat}{ow:Own}{W:World}(h:zl B K tv lp S t ow W){i j:Nat}{s s':jN}{v:Value}(hs:S.seats[i]?=some s)(hj:j<5)(he:(j6 s).set j v=j6 s'):
 zt (t++ [21]) ow W ow (W.setCell ⟨K.sb,i*5+j,none⟩ v)/\zl B K tv lp (setSeat S i s') t ow (W.setCell ⟨K.sb,i*5+j,none⟩ v):=by
 obtain⟨o,hl,hB⟩:=h.srow;have aa:zt (t++ [21]) ow W ow (W.setCell ⟨K.sb,i*5+j,none⟩ v):=zt.setCell W _ _ (by rw [o];exact Sub.rfl' _);refine⟨aa,h.setPart 21 aa rfl (λj' hj'=>?_) ⟨o,by simpa [Go.Proofs.YtofppfoioodblaaGreatDoor.setSeat] using hl,hB.setL (zcX hj he hs)⟩⟩;unfold xg Go.Proofs.YtofppfoioodblaaGreatDoor.setSeat;simp only [if_neg hj']
theorem zer(B:Nat)(K:WK)(S:zf){v:Int}{k0 L:Nat}(hG:zu v k0 L S)(hL:L<=3000000000)(t:List Nat)(ht:t≠ [])(ow:Own)(a:Addr)(i s:Nat)(hi:i<S.nodes.length)(hs:s<S.nodes.length)(kd d:Int)(data:List UInt8)(hd:data.length<=4096)(hup:(zo S i).down=false)(w:World)(h:zI B K S t ow w)
 (he:jK w a) (hge:ow 2=[]):
 Calls prog 101 #[.pointer (some ⟨B,0,none⟩),.int .i64 i,J5 kd s d data] w (xK B K (yN S i (qQ kd s d data)) t ow w (.tuple #[])):=by
 have a0:=hG.room hL;have ak:i<16:=by have:=hG.n0;omega
 have am:s<16:=by have:=hG.n0;omega
 have ah:=λW=>zi9 kd s d data hd W
 unfold J5 at*;unfold zlJ at ah
 by_cases h12:data.length<12
 ·have ae:yN S i (qQ kd s d data)=S:=by unfold yN;rw [if_pos (show(qQ kd s d data).data.length<12 from h12)]
  rw [ae];rw [if_pos h12] at ah;replace ah:=hid ah;clear ae h12;obtain⟨tv,lp,hI⟩:=h
  go_enter func101,ntmps101
  go_wp2_with fail
  refine(ah.out _).mono ?_;rintro e w1⟨rfl,ag⟩;have af:=(show Blk (w.alloc (.cells #[.int .i64 1,.int .i64 kd,.int .i64 s,.int .i64 d,.int .u32 0,.int .u32 0,.int .u32 0,.int .u32 0,.string (bs data)] 182)) w.heap.size #[.int .i64 1,.int .i64 kd,.int .i64 s,.int .i64 d,.int .u32 0,.int .u32 0,.int .u32 0,.int .u32 0,.string (bs data)] 182 from Blk.new rfl).call ag;have ad:Below w.heap.size w w1:=zh (zi (N2 _ _) _) ag;have bm:=(zl.loc B K tv lp S t).below hI (zi ad (.cells #[.int .i64 0,.int .u64 0] 171));go_wp2;go_end0
  exact⟨rfl,ow,zt.of_below t ow (zi ad _),tv,lp,bm⟩
 rw [if_neg h12] at ah
 obtain⟨inst,ax⟩:∃x:Int,((z8 data 0:Nat):Int)=x:=⟨_,rfl⟩;obtain⟨ballot,aq⟩:∃x,z8 data 4+4294967296*z8 data 8=x:=⟨_,rfl⟩;obtain⟨more,ap⟩:∃x,data.drop 12=x:=⟨_,rfl⟩
 have bg:ballot<18446744073709551616:=by
  have b1:=xx ((data.drop 4).take 4);have b2:=xx ((data.drop 8).take 4);unfold z8 at aq;omega
 have br:more.length<=4096:=by rw [← ap,U3];omega
 have ae:yN S i (qQ kd s d data)=if kd=3∨kd=5 then yZ S i (qQ kd s d data) inst ballot more
  else if kd=4 then countPromise S i s inst ballot more
  else if kd=6 then countVote S i s inst ballot
  else if kd=7 then setNode (xn S i) i (jg (zo S i) inst more).1
  else S:=by
  unfold yN;rw [if_neg (show¬(qQ kd s d data).data.length<12 from h12),← ax,← aq,← ap];rfl
 rw [ax,aq,ap] at ah;unfold x4 at ah;obtain⟨tv,lp,hI⟩:=h;replace ah:=hid ah;replace ax:=hid ax;replace aq:=hid aq;replace ap:=hid ap
 by_cases k35:kd=3∨kd=5
 ·rw [if_pos k35] at ae
  rw [ae];have ai:=λW ow hW=>zhb B K S t ht ow i s hi am kd d data inst ballot bg more (by omega) W hW a0 (hG.node hi).2.ok.2 (λx hx=>by have:=(hG.node hi).2.klen hup _ _ hx;omega) (by have:=zcW (zo S i) inst ballot;omega)
  unfold J5 x4 at ai;replace ai:=hid ai;replace ae:=hid ae
  rcases k35 with hk|hk
  have q3:(kd==3)=true:=by simp [hk]
  rotate_left
  have q3:(kd==3)=false:=by simp [hk]
  have q5:(kd==5)=true:=by simp [hk]
  all_goals
   clear hk
   go_enter func101,ntmps101
   go_wp2_with fail
   refine(ah.out _).mono ?_;rintro e w1⟨rfl,ag⟩;have af:=(show Blk (w.alloc (.cells #[.int .i64 1,.int .i64 kd,.int .i64 s,.int .i64 d,.int .u32 0,.int .u32 0,.int .u32 0,.int .u32 0,.string (bs data)] 182)) w.heap.size #[.int .i64 1,.int .i64 kd,.int .i64 s,.int .i64 d,.int .u32 0,.int .u32 0,.int .u32 0,.int .u32 0,.string (bs data)] 182 from Blk.new rfl).call ag;have ad:Below w.heap.size w w1:=zh (zi (N2 _ _) _) ag;obtain⟨w2,aa⟩:∃x,x=w1.alloc (.cells #[.int .i64 inst,.int .u64 (ballot:Nat)] 171):=⟨_,rfl⟩;have ac:Below w.heap.size w w2:=by rw [aa];exact zi ad _
   have ay:Blk w2 w.heap.size #[.int .i64 1,.int .i64 kd,.int .i64 s,.int .i64 d,.int .u32 0,.int .u32 0,.int .u32 0,.int .u32 0,.string (bs data)] 182:=by rw [aa];exact af.alloc _
   have an:Blk w2 w1.heap.size #[.int .i64 inst,.int .u64 (ballot:Nat)] 171:=by rw [aa];exact Blk.new rfl
   have c1:=af.cell;have l1:=af.lt;have c2:=(af.alloc (.cells #[.int .i64 inst,.int .u64 (ballot:Nat)] 171)).cell;have aj:=(zl.loc B K tv lp S t).cut hI ac;replace aa:=hid aa;go_wp2_with fail
   rw [← aa.out];refine(ai.out _ _ ⟨tv,lp,aj⟩).mono ?_;rintro e w3⟨rfl,aw,ar,au⟩;go_wp2;go_end0
   exact⟨rfl,aw,zt.wrap ac ar,au⟩
 rw [if_neg k35] at ae
 have q3:(kd==3)=false:=by simp;omega
 have q5:(kd==5)=false:=by simp;omega
 clear k35
 by_cases k4:kd=4
 ·rw [if_pos k4] at ae
  rw [ae];have q4:(kd==4)=true:=by simp [k4]
  have ai:=λW ow hW=>VR B K S t ht ow i s ak am inst ballot more (by omega) W hW a0 (λl hl=>by have h1:=hG.leads i l hl;have h2:=List.count_le_length (a:=true) (l:=l.promised);have h3:=h1.pc;have h4:=h1.pn;omega)
  unfold x4 at ai;replace ai:=hid ai;replace ae:=hid ae;clear k4
  go_enter func101,ntmps101
  go_wp2_with fail
  refine(ah.out _).mono ?_;rintro e w1⟨rfl,ag⟩;have af:=(show Blk (w.alloc (.cells #[.int .i64 1,.int .i64 kd,.int .i64 s,.int .i64 d,.int .u32 0,.int .u32 0,.int .u32 0,.int .u32 0,.string (bs data)] 182)) w.heap.size #[.int .i64 1,.int .i64 kd,.int .i64 s,.int .i64 d,.int .u32 0,.int .u32 0,.int .u32 0,.int .u32 0,.string (bs data)] 182 from Blk.new rfl).call ag;have ad:Below w.heap.size w w1:=zh (zi (N2 _ _) _) ag;obtain⟨w2,aa⟩:∃x,x=w1.alloc (.cells #[.int .i64 inst,.int .u64 (ballot:Nat)] 171):=⟨_,rfl⟩;have ac:Below w.heap.size w w2:=by rw [aa];exact zi ad _
  have ay:Blk w2 w.heap.size #[.int .i64 1,.int .i64 kd,.int .i64 s,.int .i64 d,.int .u32 0,.int .u32 0,.int .u32 0,.int .u32 0,.string (bs data)] 182:=by rw [aa];exact af.alloc _
  have an:Blk w2 w1.heap.size #[.int .i64 inst,.int .u64 (ballot:Nat)] 171:=by rw [aa];exact Blk.new rfl
  have c1:=af.cell;have l1:=af.lt;have c2:=(af.alloc (.cells #[.int .i64 inst,.int .u64 (ballot:Nat)] 171)).cell;have aj:=(zl.loc B K tv lp S t).cut hI ac;replace aa:=hid aa;go_wp2_with fail
  rw [← aa.out];refine(ai.out _ _ ⟨tv,lp,aj⟩).mono ?_;rintro e w3⟨rfl,aw,ar,au⟩;go_wp2;go_end0
  exact⟨rfl,aw,zt.wrap ac ar,au⟩
 rw [if_neg k4] at ae
 have q4:(kd==4)=false:=by simpa using k4
 clear k4
 by_cases k6:kd=6
 ·rw [if_pos k6] at ae
  rw [ae];have q6:(kd==6)=true:=by simp [k6]
  have ai:=λW ow hW=>zbj B K S t ht ow i s ak am inst ballot W hW a0 (λl hl=>by have h1:=hG.leads i l hl;have h2:=List.count_le_length (a:=true) (l:=l.voted);have h3:=h1.vc;have h4:=h1.vn;have h5:=h1.value;exact⟨by omega,by omega⟩)
  unfold x4 at ai;replace ai:=hid ai;replace ae:=hid ae;clear k6
  go_enter func101,ntmps101
  go_wp2_with fail
  refine(ah.out _).mono ?_;rintro e w1⟨rfl,ag⟩;have af:=(show Blk (w.alloc (.cells #[.int .i64 1,.int .i64 kd,.int .i64 s,.int .i64 d,.int .u32 0,.int .u32 0,.int .u32 0,.int .u32 0,.string (bs data)] 182)) w.heap.size #[.int .i64 1,.int .i64 kd,.int .i64 s,.int .i64 d,.int .u32 0,.int .u32 0,.int .u32 0,.int .u32 0,.string (bs data)] 182 from Blk.new rfl).call ag;have ad:Below w.heap.size w w1:=zh (zi (N2 _ _) _) ag;obtain⟨w2,aa⟩:∃x,x=w1.alloc (.cells #[.int .i64 inst,.int .u64 (ballot:Nat)] 171):=⟨_,rfl⟩;have ac:Below w.heap.size w w2:=by rw [aa];exact zi ad _
  have ay:Blk w2 w.heap.size #[.int .i64 1,.int .i64 kd,.int .i64 s,.int .i64 d,.int .u32 0,.int .u32 0,.int .u32 0,.int .u32 0,.string (bs data)] 182:=by rw [aa];exact af.alloc _
  have an:Blk w2 w1.heap.size #[.int .i64 inst,.int .u64 (ballot:Nat)] 171:=by rw [aa];exact Blk.new rfl
  have c1:=af.cell;have l1:=af.lt;have c2:=(af.alloc (.cells #[.int .i64 inst,.int .u64 (ballot:Nat)] 171)).cell;have aj:=(zl.loc B K tv lp S t).cut hI ac;replace aa:=hid aa;go_wp2_with fail
  rw [← aa.out];refine(ai.out _ _ ⟨tv,lp,aj⟩).mono ?_;rintro e w3⟨rfl,aw,ar,au⟩;go_wp2;go_end0
  exact⟨rfl,aw,zt.wrap ac ar,au⟩
 rw [if_neg k6] at ae
 have q6:(kd==6)=false:=by simpa using k6
 clear k6
 by_cases k7:kd=7
 ·rw [if_pos k7] at ae
  have q7:(kd==7)=true:=by simp [k7]
  clear k7;have bq:=(hI.srow).2.2;have a6:=hG.seat hi;obtain⟨S1,a3⟩:∃S1,xn S i=S1:=⟨_,rfl⟩;rw [a3] at ae;rw [ae];replace ae:=hid ae
  go_enter func101,ntmps101
  go_wp2_with fail
  refine(ah.out _).mono ?_;rintro e w1⟨rfl,ag⟩;have af:=(show Blk (w.alloc (.cells #[.int .i64 1,.int .i64 kd,.int .i64 s,.int .i64 d,.int .u32 0,.int .u32 0,.int .u32 0,.int .u32 0,.string (bs data)] 182)) w.heap.size #[.int .i64 1,.int .i64 kd,.int .i64 s,.int .i64 d,.int .u32 0,.int .u32 0,.int .u32 0,.int .u32 0,.string (bs data)] 182 from Blk.new rfl).call ag;have ad:Below w.heap.size w w1:=zh (zi (N2 _ _) _) ag;obtain⟨w2,aa⟩:∃x,x=w1.alloc (.cells #[.int .i64 inst,.int .u64 (ballot:Nat)] 171):=⟨_,rfl⟩;have ac:Below w.heap.size w w2:=by rw [aa];exact zi ad _
  have ay:Blk w2 w.heap.size #[.int .i64 1,.int .i64 kd,.int .i64 s,.int .i64 d,.int .u32 0,.int .u32 0,.int .u32 0,.int .u32 0,.string (bs data)] 182:=by rw [aa];exact af.alloc _
  have an:Blk w2 w1.heap.size #[.int .i64 inst,.int .u64 (ballot:Nat)] 171:=by rw [aa];exact Blk.new rfl
  have c1:=af.cell;have l1:=af.lt;have c2:=(af.alloc (.cells #[.int .i64 inst,.int .u64 (ballot:Nat)] 171)).cell;have aj:=(zl.loc B K tv lp S t).cut hI ac;replace aa:=hid aa;have be:=aj.blk;obtain⟨bp,bo,a1⟩:=aj.srow;have e2:=a1.cellL (jD a6 (j:=3) (by decide));have f2:=a1.frozen;have a9:=a1.lt;have g2:=be.cell;rw [aa.out] at e2 f2 a9 g2;have y0:(0:Int)<=(i:Int):=by omega
  have y1:(i:Int)<(S.nodes.length:Int):=by omega
  go_wp2_with fail
  obtain⟨al,ao⟩:=aj.setSeat (v:=.bool true) (s':={jo S i with stale:=true}) a6 (j:=3) (by decide) rfl;rw [show setSeat S i {jo S i with stale:=true} =S1 from a3] at ao;rw [← aa.out];have bn:(ow.cut w) w1.heap.size=[]:=Own.cut_new ad.size;have a8:(ow.cut w) 2=[]:=(Own.cut_old he.lt).trans hge;have bk:2<w2.heap.size:=Nat.lt_of_lt_of_le he.lt ac.size;have a5:jK (w2.setCell ⟨K.sb,i*5+3,none⟩ (.bool true)).drew a:=(al.cell (p:=⟨2,0,none⟩) bk (by show¬Sub _ ((ow.cut w) 2);rw [a8];exact zj (by simp))).trans (he.below ac he.lt);have bc:=an.kept (al.block an.lt (by rw [bn];exact zj (by simp)));obtain⟨w3,bf⟩:∃x,x=w2.setCell ⟨K.sb,i*5+3,none⟩ (.bool true):=⟨_,rfl⟩;rw [← bf] at al ao a5 bc⊢;clear bf e2 f2 a9 g2 be;have ba:S1.nodes=S.nodes:=by rw [← a3];rfl
  obtain⟨b,bb,px,sb,lb,pb,av,hN⟩:=ao.node ak (m:=zo S i) (by rw [ba];exact(hG.node hi).1);have bi:=ao.nodeCell bb;have bd:=ao.blk;have a2:=(hG.node hi).2;have a7:=a2.ok.bounds;have az:=zgL a b (zo S i) (t++ [i]) (by simp) (ow.cut w) inst more (by omega) w3.drew ((zy.loc _ _ _ _ _ _ _ _).below hN (zq (N2 _ _))) a2.ok.2 a5 a8 a7.2.2.2 a7.2.2.1 (by omega) a2.known;rw [ba] at bd
  generalize S.nodes.length=N at*
  replace az:=hid az;refine zd [O 0,O 1,O 2,O 3,O 4,O 5,O 6,O 7,O 8,O 9,E 10] (some 10) (λw'=>w'.cell? ⟨K.nb,i,none⟩=some (.pointer (some ⟨b,0,none⟩))/\Blk w' B #[.slice (some ⟨K.nb,0,none⟩) N K.nc,.slice (some ⟨K.sb,0,none⟩) N N,.map (some K.lm),.pointer (some ⟨K.fb,0,none⟩),.map (some K.hm),.map (some K.dm),tv] 65/\Blk w' w1.heap.size #[.int .i64 inst,.int .u64 (ballot:Nat)] 171/\True) ⟨bi,bd.drew,bc.drew,trivial⟩ ?_
  refine Wi ?_
  refine zc rfl (λJ hJ=>?_);go_wp2_with fail
  refine az.out.mono ?_;rintro e w4⟨v4,bj,rfl,a4,bh, -, -⟩;go_wp2;refine hJ.out _ _ (λhh=>absurd rfl hh) ?_;clear hJ J;refine ze ?_;have bl:=((zl.loc B K tv lp S1 t).below ao (zq (N2 _ _))).setNode ak bb a4 bh;go_wp2;go_end0
  exact⟨rfl,bj,zt.wrap ac ((al.mono (Sub.child t 21)).trans ((zt.of_below t _ (zq (N2 _ _))).trans (a4.mono (Sub.child t i)))),tv,lp,bl⟩
 rw [if_neg k7] at ae
 rw [ae];have q7:(kd==7)=false:=by simpa using k7
 replace ae:=hid ae;clear k7
 go_enter func101,ntmps101
 go_wp2_with fail
 refine(ah.out _).mono ?_;rintro e w1⟨rfl,ag⟩;have af:=(show Blk (w.alloc (.cells #[.int .i64 1,.int .i64 kd,.int .i64 s,.int .i64 d,.int .u32 0,.int .u32 0,.int .u32 0,.int .u32 0,.string (bs data)] 182)) w.heap.size #[.int .i64 1,.int .i64 kd,.int .i64 s,.int .i64 d,.int .u32 0,.int .u32 0,.int .u32 0,.int .u32 0,.string (bs data)] 182 from Blk.new rfl).call ag;have ad:Below w.heap.size w w1:=zh (zi (N2 _ _) _) ag;obtain⟨w2,aa⟩:∃x,x=w1.alloc (.cells #[.int .i64 inst,.int .u64 (ballot:Nat)] 171):=⟨_,rfl⟩;have ac:Below w.heap.size w w2:=by rw [aa];exact zi ad _
 have ay:Blk w2 w.heap.size #[.int .i64 1,.int .i64 kd,.int .i64 s,.int .i64 d,.int .u32 0,.int .u32 0,.int .u32 0,.int .u32 0,.string (bs data)] 182:=by rw [aa];exact af.alloc _
 have an:Blk w2 w1.heap.size #[.int .i64 inst,.int .u64 (ballot:Nat)] 171:=by rw [aa];exact Blk.new rfl
 have c1:=af.cell;have l1:=af.lt;have c2:=(af.alloc (.cells #[.int .i64 inst,.int .u64 (ballot:Nat)] 171)).cell;have aj:=(zl.loc B K tv lp S t).cut hI ac;replace aa:=hid aa;go_wp2;go_end0
 rw [← aa.out];exact⟨rfl,_,zt.wrap ac (zt.refl _ _ _),tv,lp,aj⟩
