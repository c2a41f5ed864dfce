/- PARTS OF THE PROOF. -/
import Derived.Test.YtofppfoioodblaaGreatDoorDA28
set_option maxRecDepth 8000
set_option maxHeartbeats 4000000
open Go.Proofs.Tryz
namespace Go.Proofs.YtofppfoioodblaaGreatDoor
section
open Go Go.RowKit Go.Shelf Go.Extern.Stop Go.Stop Go.Extern
attribute [local go_sem] Oper.semAt_some zB zo
theorem zdd {px sb lb pb:Nat}{av:Value}{n:zq}{t:List Nat}{ow:Own}{B:Nat}(i:Int)(w:World)(h:zw B px sb lb pb av n t ow w):Calls prog 200 #[.pointer (some ⟨B,0,none⟩),.int .i64 i] w λe w'=>e=.returned (.tuple #[.string (bs ((zH i n.pax.known).getD [])),.bool (zH i n.pax.known).isSome])/\Below w.heap.size w w':=by
 have hB:=h.blk;have hn:=YI w hB;have hp:=YH px n.pax (t++ [0]) ow i w h.pax;unfold zD at hB;have e0:=hB.cell;replace hn:=hid hn;replace hp:=hid hp;replace hB:=hid hB;clear h
 go_enter func200,ntmps200
 go_wp2_with fail
 refine hn.out.mono ?_;rintro e w1⟨rfl,rfl⟩;go_wp2_with fail
 refine hp.out.mono ?_;rintro e w1⟨rfl,aa⟩;go_wp2;go_ret2
 exact⟨rfl,aa⟩
theorem zk.nodeCell {B:Nat}{K:WK}{tv:Value}{lp:Nat->Option Nat}{S:zf}{t:List Nat}{ow:Own}{W:World}(h:zk B K tv lp S t ow W){i b:Nat}(hb:K.nl[i]?=some b):W.cell? ⟨K.nb,i,none⟩=some (.pointer (some ⟨b,0,none⟩)):=by
 obtain⟨-, -,hR⟩:=h.nrow
 rcases hR.src.2 with⟨h1,h2⟩|⟨g,off,cap,hv, -,hr⟩
 ·cases h1
 cases hv
 have:=hr i (.pointer (some ⟨b,0,none⟩)) (by unfold vE;rw [List.getElem?_map,hb];rfl)
 rwa [Nat.zero_add] at this
theorem yC.modFree {t:List Nat}(ht:t≠ []){A:Own->World->Prop}(hA:yC t A){ow:Own}{w w':World}(h:A ow w){v:Nat}(hv:ow v=[])(hM:Mod (λk=>k=v) w w'):A ow w':=
 hA _ _ _ _ h hM.size (λk hk hs=>⟨rfl,hM.block k hk (λe=>by subst e;rw [hv] at hs;exact zj ht hs)⟩)
theorem zp.modNew {t:List Nat}{ow ow':Own}{w w' w2:World}(h:zp t ow w ow' w'){v:Nat}(hv:w.heap.size<=v)(hM:Mod (λk=>k=v) w' w2):zp t ow w ow' w2:=
 ⟨h.mod.trans hM (λ_ _ e=>e) (λk hk e=>absurd e (by omega)),h.agree⟩
theorem zg8(B:Nat)(K:WK)(S:zf)(t:List Nat)(ht:t≠ [])(ow:Own)(i s:Nat)(hi:i<S.nodes.length)(hs:s<16)(k d:Int)(data:List UInt8)(inst:Int)(ballot:Nat)(hbl:ballot<18446744073709551616)(more:List UInt8)(hmr:more.length<=900000)(w:World)(h:zK B K S t ow w)(hg:zby S)(hcap:vx (zn S i).store)
 (hkn:∀x,zH inst (zn S i).pax.known=some x->x.length<=900000) (hpr:(zy (zn S i) inst ballot).2.1.2.2.length<=900000):
 Calls prog 151 #[.pointer (some ⟨B,0,none⟩),.int .i64 i,J9 k s d data,xX inst ballot,.string (bs more)] w (qK B K (yN S i (qW k s d data) inst ballot more) t ow w (.tuple #[])):=by
 obtain⟨tv,lp,hI⟩:=h;have am:i<16:=by have:=hg.n0;omega
 unfold xX J9;obtain⟨W0,be⟩:∃W0,W0=(w.alloc (.cells #[.int .i64 1,.int .i64 k,.int .i64 s,.int .i64 d,.int .u32 0,.int .u32 0,.int .u32 0,.int .u32 0,.string (bs data)] 182)).alloc (.cells #[.int .i64 inst,.int .u64 (ballot:Nat)] 171):=⟨_,rfl⟩;have br:Below w.heap.size w W0:=by rw [be];exact pbx
 have aw:Blk W0 w.heap.size #[.int .i64 1,.int .i64 k,.int .i64 s,.int .i64 d,.int .u32 0,.int .u32 0,.int .u32 0,.int .u32 0,.string (bs data)] 182:=by rw [be];exact bkx
 have ax:Blk W0 (w.heap.size+1) #[.int .i64 inst,.int .u64 (ballot:Nat)] 171:=by rw [be];exact Blk.new (by simp)
 have bc:=(zk.loc B K tv lp S t).cut hI br;have cl:(ow.cut w) w.heap.size=[]:=Own.cut_new (N0 _);have b9:(ow.cut w) (w.heap.size+1)=[]:=Own.cut_new (Nat.le_succ _);obtain⟨bb,bz⟩:∃o,ow.cut w=o:=⟨_,rfl⟩;rw [bz] at bc cl b9;obtain⟨b,bm,px,sb,lb,pb,av,hN⟩:=bc.node am (m:=zn S i) (by unfold zn;rw [N3 hi];rfl);have bn:=λW hW=>zdd (B:=b) (px:=px) (sb:=sb) (lb:=lb) (pb:=pb) (av:=av) (n:=zn S i) (t:=t++ [i]) (ow:=bb) inst W hW
 have a7:=bc.nodeCell bm;have bf:=bc.blk;obtain⟨N,cp⟩:∃N,S.nodes.length=N:=⟨_,rfl⟩;rw [cp] at hi;simp only [cp] at bf;have y0:(0:Int)<=(i:Int):=by omega
 have y1:(i:Int)<(N:Int):=by omega
 replace bn:=hid bn;replace be:=hid be;replace hkn:=hid hkn;replace bm:=hid bm;have c0:=aw.cell
 cases hlk:zH inst (zn S i).pax.known with
 |some x=>
  rw [hlk] at bn
  have ag:yN S i (qW k s d data) inst ballot more=QN S 7 i s (xY inst ballot x):=by
   rw [V6 (by have:=hg.last;omega)];unfold yN;rw [hlk];rfl
  rw [ag];have cw:=hkn.out x hlk;have au:=λv W hv=>Jt 7 i s inst ballot v [x] W hv (by simp) (by simp;omega)
  rw [show [x].flatten=x by simp] at au;unfold xX J9 at au;have a2:=λW ow b hW hb=>Qf B K S t ow b 7 i s (by omega) am hs (xY inst ballot x) (by unfold xY;rw [N1,show(le4 (inst % 4294967296).toNat++le8 ballot).length=12 from rfl];omega) W hW hg.notes (by have:=hg.last;omega) hb
  unfold zmI at a2
  generalize xY inst ballot x=dat at*
  replace au:=hid au;replace a2:=hid a2;replace ag:=hid ag;replace hlk:=hid hlk
  go_enter func151,ntmps151
  go_wp2_with fail
  rw [← be.out];refine zd [O 0,O 1,O 2,O 3,O 4,O 5,O 6,O 7,O 8,E 9,O 10,O 11,O 12,O 13,O 14] none (λw'=>w'.cell? ⟨K.nb,i,none⟩=some (.pointer (some ⟨b,0,none⟩))/\Blk w' B #[.slice (some ⟨K.nb,0,none⟩) N K.nc,.slice (some ⟨K.sb,0,none⟩) N N,.map (some K.lm),.pointer (some ⟨K.fb,0,none⟩),.map (some K.hm),.map (some K.dm),tv] 65/\Blk w' (w.heap.size+1) #[.int .i64 inst,.int .u64 (ballot:Nat)] 171/\True) (by kernel_rfl) (by kernel_rfl) ⟨a7,bf.drew,ax.drew,trivial⟩ ?_
  refine Wg ?_
  refine zc rfl (λJ hJ=>?_);go_wp2_with fail
  refine(bn.out _ ((zw.loc _ _ _ _ _ _ _ _).below hN (zm (N2 _ _)))).mono ?_;rintro e w1⟨rfl,bw⟩;have aa:Below W0.heap.size W0 w1:=ze (zm (N2 _ _)) bw;have al:w1.cell? ⟨K.nb,i,none⟩=some (.pointer (some ⟨b,0,none⟩)):=(aa.cell (p:=⟨K.nb,i,none⟩) (jx a7)).trans a7;go_wp2;refine hJ.out _ _ (λ_=>⟨al,bf.call aa,ax.call aa,trivial⟩) ?_;clear hJ J
  refine Wg ?_
  refine zg ?_;clear c0 al;have an:=ax.call aa;have c1:=(aw.call aa).cell;have d1:=an.cell;go_wp2_with fail
  refine(au.out _ _ (jD (n:=1) (size:=1) (cap:=1) (Blk.new rfl) rfl (N0 1))).mono ?_;rintro e w3⟨rfl,cn⟩;have cb:Below W0.heap.size W0 w3:=ze (zi aa _) cn;go_wp2_with fail
  obtain⟨W4,bl⟩:∃W4,W4=w3.alloc (.cells #[.int .i64 1,.int .i64 7,.int .i64 i,.int .i64 s,.int .u32 0,.int .u32 0,.int .u32 0,.int .u32 0,.string (bs dat)] 182):=⟨_,rfl⟩;have b2:Below W0.heap.size W0 W4:=by rw [bl];exact zi cb _
  have k4:Blk W4 w3.heap.size #[.int .i64 1,.int .i64 7,.int .i64 i,.int .i64 s,.int .u32 0,.int .u32 0,.int .u32 0,.int .u32 0,.string (bs dat)] 182:=by rw [bl];exact Blk.new rfl
  rw [← bl];refine(a2.out W4 (bb.cut W0) _ ⟨tv,lp,(zk.loc B K tv lp S t).cut bc b2⟩ k4).mono ?_;rintro e w5⟨rfl,cc,cj,cf⟩;go_wp2;go_end0
  exact⟨rfl,cc,zp.wrap br (by rw [bz];exact zp.wrap b2 cj),cf⟩
 |none=>
  rw [hlk] at bn;have a8:t++ [i] ≠ []:=by simp
  have ao:=λkk W=>Jt kk i s inst ballot (.slice none 0 0) [] W ⟨rfl,.inl ⟨rfl,rfl⟩⟩ (by simp) (by simp)
  have a2:=λS' kk (hkk:kk<=31) dat (hdl:dat.length<=1000000) W ow b hW h1 h2 hb=>Qf B K S' t ow b kk i s hkk am hs dat hdl W hW h1 h2 hb
  rw [show([]:List (List UInt8)).flatten=[] from rfl] at ao;unfold xX J9 at ao;unfold zmI at a2;replace a2:=hid a2
  by_cases hk5:k=5
  ·subst hk5
   obtain⟨m',er,a4⟩:∃a b,yH (zn S i) inst ballot more=(a,b):=⟨_,_,rfl⟩
   have ag:yN S i (qW 5 s d data) inst ballot more=if er=0 then QN (setNode S i m') 6 i s (xY inst ballot [])else setNode S i m':=by
    rw [V6 (by have:=hg.last;unfold setNode;simp only;omega)];unfold yN;rw [hlk];simp only [qW,if_true,a4];rfl
   obtain⟨S',ar⟩:∃S',(if er=0 then QN (setNode S i m') 6 i s (xY inst ballot [])else setNode S i m')=S':=⟨_,rfl⟩;rw [ag,ar];replace ar:=hid ar;have ai:=λW ow hN=>ziK (px:=px) (sb:=sb) (lb:=lb) (pb:=pb) (av:=av) b (zn S i) (t++ [i]) a8 ow inst ballot hbl more (by omega) W hN hcap
   rw [a4] at ai;simp only at ai;replace hlk:=hid hlk;replace ai:=hid ai;replace ao:=hid ao;replace ag:=hid ag;replace a4:=hid a4
   go_enter func151,ntmps151
   go_wp2_with fail
   rw [← be.out];refine zd [O 0,O 1,O 2,O 3,O 4,O 5,O 6,O 7,O 8,E 9,O 10,O 11,O 12,O 13,O 14] none (λw'=>w'.cell? ⟨K.nb,i,none⟩=some (.pointer (some ⟨b,0,none⟩))/\Blk w' B #[.slice (some ⟨K.nb,0,none⟩) N K.nc,.slice (some ⟨K.sb,0,none⟩) N N,.map (some K.lm),.pointer (some ⟨K.fb,0,none⟩),.map (some K.hm),.map (some K.dm),tv] 65/\Blk w' (w.heap.size+1) #[.int .i64 inst,.int .u64 (ballot:Nat)] 171/\True) (by kernel_rfl) (by kernel_rfl) ⟨a7,bf.drew,ax.drew,trivial⟩ ?_
   refine Wg ?_
   refine zc rfl (λJ hJ=>?_);go_wp2_with fail
   refine(bn.out _ ((zw.loc _ _ _ _ _ _ _ _).below hN (zm (N2 _ _)))).mono ?_;rintro e w1⟨rfl,bw⟩;have aa:Below W0.heap.size W0 w1:=ze (zm (N2 _ _)) bw;have al:w1.cell? ⟨K.nb,i,none⟩=some (.pointer (some ⟨b,0,none⟩)):=(aa.cell (p:=⟨K.nb,i,none⟩) (jx a7)).trans a7;have a6:=bf.call aa;have an:=ax.call aa;go_wp2;refine hJ.out _ _ (λ_=>⟨al,a6,an,trivial⟩) ?_;clear hJ J
   refine Wg ?_
   refine zg ?_;clear c0;have c1:=(aw.call aa).cell;go_wp2_with fail
   have a0:Below W0.heap.size W0 w1.drew:=zm aa;have bp:=(zk.loc B K tv lp S t).cut bc a0;have b0:=(zw.loc _ _ _ _ _ _ _ _).cut hN a0;have bq:(bb.cut W0) (w.heap.size+1)=[]:=(Own.cut_old ax.lt).trans b9;have bo:(bb.cut W0) w.heap.size=[]:=(Own.cut_old aw.lt).trans cl;obtain⟨cu,bj⟩:∃o,bb.cut W0=o:=⟨_,rfl⟩;rw [bj] at bp b0 bq bo;refine zd [O 0,O 1,O 2,O 3,O 4,O 5,O 6,O 7,O 8,O 9,O 10,O 11,E 12,O 13] none (λw'=>w'.cell? ⟨K.nb,i,none⟩=some (.pointer (some ⟨b,0,none⟩))/\Blk w' B #[.slice (some ⟨K.nb,0,none⟩) N K.nc,.slice (some ⟨K.sb,0,none⟩) N N,.map (some K.lm),.pointer (some ⟨K.fb,0,none⟩),.map (some K.hm),.map (some K.dm),tv] 65/\Blk w' (w.heap.size+1) #[.int .i64 inst,.int .u64 (ballot:Nat)] 171/\True) (by kernel_rfl) (by kernel_rfl) ⟨al,a6.drew,an.drew,trivial⟩ ?_
   refine Wg ?_
   refine zc rfl (λJ hJ=>?_);go_wp2_with fail
   refine(ai.out _ _ b0).mono ?_;rintro e w2⟨rfl,a3,ah,b3⟩;have bg:=bp.setNode am bm.out ah b3;have bh:=an.drew.kept (ah.block an.drew.lt (by rw [bq];exact zj a8));have bt:=(aw.call a0).kept (ah.block (aw.call a0).lt (by rw [bo];exact zj a8));have aq:zp t ow w a3 w2:=zp.wrap br (by rw [bz];exact zp.wrap a0 (by rw [bj];exact ah.mono (Sub.child t i)));have ct:=a6.drew.kept (ah.block a6.drew.lt (Z6 t i bp.own));have co:=bg.nodeCell bm.out;go_wp2;refine hJ.out _ _ (λ_=>⟨co,ct,bh,trivial⟩) ?_;clear hJ J c1 al co
   refine Wg ?_
   refine zg ?_;have c2:=bt.cell;have d2:=bh.cell
   by_cases he:er=0
   ·subst he
    have ad:=ar.out;rw [if_pos rfl] at ad;have ak:zby (setNode S i m'):=⟨hg.notes,hg.last,by simpa [setNode] using hg.n0⟩;have ae:=λdat hdl W ow b hW hb=>a2.out (setNode S i m') 6 (by omega) dat hdl W ow b hW ak.notes (by have:=ak.last;omega) hb
    replace ae:=hid ae;replace ad:=hid ad;replace ak:=hid ak;go_wp2_with fail
    refine(ao.out _ _).mono ?_;rintro e w3⟨rfl,cn⟩;go_wp2_with fail
    obtain⟨W4,bl⟩:∃W4,W4=w3.alloc (.cells #[.int .i64 1,.int .i64 6,.int .i64 i,.int .i64 s,.int .u32 0,.int .u32 0,.int .u32 0,.int .u32 0,.string (bs (xY inst ballot []))] 182):=⟨_,rfl⟩;have bu:Below w2.heap.size w2 W4:=by rw [bl];exact zi cn _
    have k4:Blk W4 w3.heap.size #[.int .i64 1,.int .i64 6,.int .i64 i,.int .i64 s,.int .u32 0,.int .u32 0,.int .u32 0,.int .u32 0,.string (bs (xY inst ballot []))] 182:=by rw [bl];exact Blk.new rfl
    rw [← bl];refine(ae.out _ (by unfold xY;rw [N1,show(le4 (inst % 4294967296).toNat++le8 ballot).length=12 from rfl];simp) W4 (a3.cut w2) _ ⟨tv,lp,(zk.loc B K tv lp _ t).cut bg bu⟩ k4).mono ?_;rintro e w5⟨rfl,cc,cj,cf⟩;go_wp2;go_end0
    exact⟨rfl,cc,aq.trans (zp.wrap bu cj),by rw [← ad.out];exact cf⟩
   have t2:(er==0)=false:=by simpa using he
   have ad:=ar.out;rw [if_neg he] at ad;clear he;go_wp2;go_end0
   exact⟨rfl,a3,aq,by rw [← ad];exact⟨tv,lp,bg⟩⟩
  obtain⟨m',⟨v1,v2,v3⟩,er,a4⟩:∃a v b,zy (zn S i) inst ballot=(a,v,b):=⟨_,_,_,rfl⟩
  rw [a4] at hpr;simp only at hpr;have tk:(k==5)=false:=by simpa using hk5
  have ag:yN S i (qW k s d data) inst ballot more=if er=0 then QN (setNode S i m') 4 i s (xY inst ballot (le8 v2++v3))else setNode S i m':=by
   rw [V6 (by have:=hg.last;unfold setNode;simp only;omega)];unfold yN;rw [hlk];simp only [qW,if_neg hk5,a4];rfl
  obtain⟨S',ar⟩:∃S',(if er=0 then QN (setNode S i m') 4 i s (xY inst ballot (le8 v2++v3))else setNode S i m')=S':=⟨_,rfl⟩;rw [ag,ar];replace ar:=hid ar;have af:=λW ow hN=>zcT (px:=px) (sb:=sb) (lb:=lb) (pb:=pb) (av:=av) b (zn S i) (t++ [i]) a8 ow inst ballot hbl W hN hcap
  rw [a4] at af;unfold zbj yY at af;simp only at af;have au:=λv W hv=>Jt 4 i s inst ballot v [le8 v2,v3] W hv (by simp) (by rw [show [le8 v2,v3].flatten=le8 v2++v3 by simp,N1,show(le8 v2).length=8 from rfl];omega)
  rw [show [le8 v2,v3].flatten=le8 v2++v3 by simp] at au;unfold xX J9 at au;have ba:=λW=>zfu v2 W
  clear hk5 ao;replace ba:=hid ba;replace au:=hid au;replace hlk:=hid hlk;replace af:=hid af;replace ag:=hid ag;replace a4:=hid a4
  go_enter func151,ntmps151
  go_wp2_with fail
  rw [← be.out];refine zd [O 0,O 1,O 2,O 3,O 4,O 5,O 6,O 7,O 8,E 9,O 10,O 11,O 12,O 13,O 14] none (λw'=>w'.cell? ⟨K.nb,i,none⟩=some (.pointer (some ⟨b,0,none⟩))/\Blk w' B #[.slice (some ⟨K.nb,0,none⟩) N K.nc,.slice (some ⟨K.sb,0,none⟩) N N,.map (some K.lm),.pointer (some ⟨K.fb,0,none⟩),.map (some K.hm),.map (some K.dm),tv] 65/\Blk w' (w.heap.size+1) #[.int .i64 inst,.int .u64 (ballot:Nat)] 171/\True) (by kernel_rfl) (by kernel_rfl) ⟨a7,bf.drew,ax.drew,trivial⟩ ?_
  refine Wg ?_
  refine zc rfl (λJ hJ=>?_);go_wp2_with fail
  refine(bn.out _ ((zw.loc _ _ _ _ _ _ _ _).below hN (zm (N2 _ _)))).mono ?_;rintro e w1⟨rfl,bw⟩;have aa:Below W0.heap.size W0 w1:=ze (zm (N2 _ _)) bw;have al:w1.cell? ⟨K.nb,i,none⟩=some (.pointer (some ⟨b,0,none⟩)):=(aa.cell (p:=⟨K.nb,i,none⟩) (jx a7)).trans a7;have a6:=bf.call aa;have an:=ax.call aa;go_wp2;refine hJ.out _ _ (λ_=>⟨al,a6,an,trivial⟩) ?_;clear hJ J
  refine Wg ?_
  refine zg ?_;clear c0;have c1:=(aw.call aa).cell;go_wp2_with fail
  have a0:Below W0.heap.size W0 w1.drew:=zm aa;have bp:=(zk.loc B K tv lp S t).cut bc a0;have b0:=(zw.loc _ _ _ _ _ _ _ _).cut hN a0;have bq:(bb.cut W0) (w.heap.size+1)=[]:=(Own.cut_old ax.lt).trans b9;have bo:(bb.cut W0) w.heap.size=[]:=(Own.cut_old aw.lt).trans cl;obtain⟨cu,bj⟩:∃o,bb.cut W0=o:=⟨_,rfl⟩;rw [bj] at bp b0 bq bo;refine vB [O 0,O 1,O 2,O 3,O 4,O 5,O 6,O 7,O 8,O 9,O 10] (some 11) (λw'=>w'.cell? ⟨K.nb,i,none⟩=some (.pointer (some ⟨b,0,none⟩))/\Blk w' B #[.slice (some ⟨K.nb,0,none⟩) N K.nc,.slice (some ⟨K.sb,0,none⟩) N N,.map (some K.lm),.pointer (some ⟨K.fb,0,none⟩),.map (some K.hm),.map (some K.dm),tv] 65/\Blk w' (w.heap.size+1) #[.int .i64 inst,.int .u64 (ballot:Nat)] 171/\True) #[true,true,true,true,true,true,true,true,true,true,true,false,false,false,false,false,false,false] (m:=7) (by kernel_rfl) (by kernel_rfl) ⟨al,a6.drew,an.drew,trivial⟩ ?_
  (repeat (refine zP (v:=?_) rfl rfl (λw' h=>?_) (λK k=>?_);rotate_left;obtain⟨f1,f2,f3,_⟩:=h;have e2:=f2.cell;have e3:=f3.cell;go_simp;(try with_reducible rfl);go_simp;refine k _ ?_;clear k K))
  refine jS (λ_=>?_);refine X7 11 [15] (by kernel_rfl) ?_ (Vm ?_ X8)
  ·refine zcY rfl (by decide) (λJ hJ=>?_)
   go_wp2_with fail
   refine(af.out _ _ b0).mono ?_;rintro e w2⟨rfl,a3,ah,b3⟩;have bg:=bp.setNode am bm.out ah b3;have bh:=an.drew.kept (ah.block an.drew.lt (by rw [bq];exact zj a8));have bt:=(aw.call a0).kept (ah.block (aw.call a0).lt (by rw [bo];exact zj a8));have aq:zp t ow w a3 w2:=zp.wrap br (by rw [bz];exact zp.wrap a0 (by rw [bj];exact ah.mono (Sub.child t i)));go_wp2;refine hJ.out _ _ ?_;clear hJ J c1 al;refine xC [O 12,O 13,O 14,E 15,E 16,O 17] (by kernel_rfl) (λ_=>trivial) ?_
   refine Wj ?_
   refine jJ rfl (by simp) (λJ hJ=>?_);go_wp2;refine hJ.out _ _ trivial ?_;clear hJ J;refine jJ rfl (by simp) (λJ hJ=>?_);go_wp2;refine hJ.out _ _ trivial ?_;clear hJ J
   refine Wj ?_
   refine jS ?_;obtain⟨w3,a5⟩:∃x,x=w2.alloc (.cells #[.int .u64 (v1:Nat),.int .u64 (v2:Nat),.string (bs v3)] 317):=⟨_,rfl⟩;have a9:Below w2.heap.size w2 w3:=by rw [a5];exact zi (N2 _ _) _
   have az:Blk w3 w2.heap.size #[.int .u64 (v1:Nat),.int .u64 (v2:Nat),.string (bs v3)] 317:=by rw [a5];exact Blk.new rfl
   rw [← a5];clear a5;have bk:=(zk.loc B K tv lp _ t).cut bg a9;have ay:=bh.call a9;have ap:=bt.call a9;have aj:zp t ow w (a3.cut w2) w3:=aq.trans (zp.wrap a9 (zp.refl _ _ _));obtain⟨bv,b1⟩:∃o,a3.cut w2=o:=⟨_,rfl⟩;rw [b1] at bk aj;clear b1
   generalize w2.heap.size=vb at*
   have c3:=ap.cell
   by_cases he:er=0
   ·subst he
    have ad:=ar.out;rw [if_pos rfl] at ad;have ak:zby (setNode S i m'):=⟨hg.notes,hg.last,by simpa [setNode] using hg.n0⟩;have ae:=λW ow b hW hb=>a2.out (setNode S i m') 4 (by omega) (xY inst ballot (le8 v2++v3)) (by unfold xY;rw [N1,show(le4 (inst % 4294967296).toNat++le8 ballot).length=12 from(by rw [N1];rfl),N1,show(le8 v2).length=8 from rfl];omega) W ow b hW ak.notes (by have:=ak.last;omega) hb
    generalize xY inst ballot (le8 v2++v3)=dat at*
    replace ae:=hid ae;replace ad:=hid ad;replace ak:=hid ak;clear c3;go_wp2_with fail
    refine zd [O 0,O 1,O 2,O 3,O 4,O 5,O 6,O 8,O 9,E 7,E 10,E 11,E 12,E 13] (some 13) (λw'=>Blk w' w.heap.size #[.int .i64 1,.int .i64 k,.int .i64 s,.int .i64 d,.int .u32 0,.int .u32 0,.int .u32 0,.int .u32 0,.string (bs data)] 182/\Blk w' (w.heap.size+1) #[.int .i64 inst,.int .u64 (ballot:Nat)] 171/\Blk w' vb #[.int .u64 (v1:Nat),.int .u64 (v2:Nat),.string (bs v3)] 317/\True) (by kernel_rfl) (by kernel_rfl) ⟨ap.drew,ay.drew,az.drew,trivial⟩ ?_
    refine Wl ?_
    refine zc rfl (λJ hJ=>?_);go_wp2_with fail
    refine(ba.out _).mono ?_;rintro e w4⟨rfl,cd⟩;have ab:Below w3.heap.size w3 w4:=ze (zm (N2 _ _)) cd;go_wp2;refine hJ.out _ _ (λ_=>⟨ap.call ab,ay.call ab,az.call ab,trivial⟩) ?_;clear hJ J;refine zc rfl (λJ hJ=>?_);go_wp2;refine hJ.out _ _ (λ_=>⟨(ap.call ab).alloc _,(ay.call ab).alloc _,(az.call ab).alloc _,trivial⟩) ?_;clear hJ J;refine zc rfl (λJ hJ=>?_);go_wp2_with fail
    refine(au.out _ _ (jD (n:=2) (size:=1) (cap:=2) (Blk.new rfl) rfl (N0 2))).mono ?_;rintro e w5⟨rfl,ci⟩;have ac:Below w3.heap.size w3 w5:=ze (zi ab _) ci;go_wp2;refine hJ.out _ _ (λ_=>⟨ap.call ac,ay.call ac,az.call ac,trivial⟩) ?_;clear hJ J;refine zc rfl (λJ hJ=>?_);go_wp2;refine hJ.out _ _ (λ_=>⟨(ap.call ac).alloc _,(ay.call ac).alloc _,(az.call ac).alloc _,trivial⟩) ?_;clear hJ J;refine zc rfl (λJ hJ=>?_);go_wp2_with fail
    obtain⟨W6,bi⟩:∃W6,W6=w5.alloc (.cells #[.int .i64 1,.int .i64 4,.int .i64 i,.int .i64 s,.int .u32 0,.int .u32 0,.int .u32 0,.int .u32 0,.string (bs dat)] 182):=⟨_,rfl⟩;have a1:Below w3.heap.size w3 W6:=by rw [bi];exact zi ac _
    have k6:Blk W6 w5.heap.size #[.int .i64 1,.int .i64 4,.int .i64 i,.int .i64 s,.int .u32 0,.int .u32 0,.int .u32 0,.int .u32 0,.string (bs dat)] 182:=by rw [bi];exact Blk.new rfl
    rw [← bi];refine(ae.out W6 (bv.cut w3) _ ⟨tv,lp,(zk.loc B K tv lp _ t).cut bk a1⟩ k6).mono ?_;rintro e w7⟨rfl,ch,ck,ce⟩;go_wp2;refine hJ.out _ _ (λhh=>absurd rfl hh) ?_;clear hJ J;refine zg ?_;go_wp2;go_end0
    exact⟨rfl,ch,aj.trans (zp.wrap a1 ck),by rw [← ad.out];exact ce⟩
   have t2:(er==0)=false:=by simpa using he
   have ad:=ar.out;rw [if_neg he] at ad;clear he;go_wp2;go_end0
   exact⟨rfl,bv,aj,by rw [← ad];exact⟨tv,lp,bk⟩⟩
  refine YN rfl (λJ hJ=>?_)
  go_wp2;refine hJ.out _ _ ⟨jo (w:=w1) al _,a6.alloc _,an.alloc _,trivial⟩ ?_;clear hJ J;obtain⟨wA,b7⟩:∃x,x=(w1.alloc (.cells #[.int .u64 0,.int .u64 0,.string ⟨#[]⟩] 317)).drew:=⟨_,rfl⟩;refine xC [E 11,O 12,O 13,O 14,E 16,O 17] (by kernel_rfl) (λ_=>⟨jo (w:=w1) al _,a6.alloc _,an.alloc _,trivial⟩) ?_;refine J3 rfl (λJ hJ=>?_);go_wp2_with fail
  have bd:Below W0.heap.size W0 (w1.alloc (.cells #[.int .u64 0,.int .u64 0,.string ⟨#[]⟩] 317)).drew:=zm (zi aa _);have cg:=(zk.loc B K tv lp S t).cut bc bd;have b8:=(zw.loc _ _ _ _ _ _ _ _).cut hN bd;have b4:=aa.size;have ca:(bb.cut W0) w1.heap.size=[]:=Own.cut_new b4;rw [bj] at cg b8 ca;obtain⟨wA,b7⟩:∃x,x=(w1.alloc (.cells #[.int .u64 0,.int .u64 0,.string ⟨#[]⟩] 317)).drew:=⟨_,rfl⟩;have cm:Blk wA w1.heap.size #[.int .u64 0,.int .u64 0,.string ⟨#[]⟩] 317:=by rw [b7];exact(Blk.new rfl).drew
  rw [← b7] at bd cg b8⊢;clear b7;refine(af.out _ _ b8).mono ?_;rintro e w2⟨rfl,a3,ah,b3⟩;have bg:=cg.setNode am bm.out ah b3;have bh:=(ax.call bd).kept (ah.block (ax.call bd).lt (by rw [bq];exact zj a8));have bt:=(aw.call bd).kept (ah.block (aw.call bd).lt (by rw [bo];exact zj a8));have b5:=cm.kept (ah.block cm.lt (by rw [ca];exact zj a8));have cs:a3 w1.heap.size=[]:=(ah.agree _ cm.lt).trans ca;have aq:zp t ow w a3 w2:=zp.wrap br (by rw [bz];exact zp.wrap bd (by rw [bj];exact ah.mono (Sub.child t i)));have cv:=b5.cell;have cq:=b5.frozen;have cr:=b5.lt;go_wp2;refine hJ.out _ _ ?_;clear hJ J c1 al
  refine Wj ?_
  refine jJ rfl (by simp) (λJ hJ=>?_);go_wp2;refine hJ.out _ _ trivial ?_;clear hJ J cv cq cr
  refine Wj ?_
  refine jS ?_;obtain⟨w3,a5⟩:∃x,x=((w2.setCell ⟨w1.heap.size,0,none⟩ (.int .u64 (v1:Nat))).setCell ⟨w1.heap.size,1,none⟩ (.int .u64 (v2:Nat))).setCell ⟨w1.heap.size,2,none⟩ (.string (bs v3)):=⟨_,rfl⟩;have b6:Mod (λk=>k=w1.heap.size) w2 w3:=by rw [a5];exact(((Mod.refl (λk=>k=w1.heap.size) w2).thenSet (p:=⟨w1.heap.size,0,none⟩) rfl _).thenSet (p:=⟨w1.heap.size,1,none⟩) rfl _).thenSet (p:=⟨w1.heap.size,2,none⟩) rfl _
  have az:Blk w3 w1.heap.size #[.int .u64 (v1:Nat),.int .u64 (v2:Nat),.string (bs v3)] 317:=by rw [a5];exact((b5.set (o:=0) _).set (o:=1) _).set (o:=2) _
  rw [← a5];clear a5;have bk:=(zk.loc B K tv lp _ t).modFree ht bg cs b6;have cy:=br.size;have cx:w.heap.size+1<w1.heap.size:=by have:=ax.lt;omega
  have ay:=bh.kept (b6.block _ bh.lt (λe=>by omega));have ap:=bt.kept (b6.block _ bt.lt (λe=>by omega));have aj:=aq.modNew (by omega) b6;obtain⟨bv,b1⟩:∃o,a3=o:=⟨_,rfl⟩;rw [b1] at bk aj;clear b1
  generalize w1.heap.size=vb at*
  have c3:=ap.cell
  by_cases he:er=0
  ·subst he
   have ad:=ar.out;rw [if_pos rfl] at ad;have ak:zby (setNode S i m'):=⟨hg.notes,hg.last,by simpa [setNode] using hg.n0⟩;have ae:=λW ow b hW hb=>a2.out (setNode S i m') 4 (by omega) (xY inst ballot (le8 v2++v3)) (by unfold xY;rw [N1,show(le4 (inst % 4294967296).toNat++le8 ballot).length=12 from(by rw [N1];rfl),N1,show(le8 v2).length=8 from rfl];omega) W ow b hW ak.notes (by have:=ak.last;omega) hb
   generalize xY inst ballot (le8 v2++v3)=dat at*
   replace ae:=hid ae;replace ad:=hid ad;replace ak:=hid ak;clear c3;go_wp2_with fail
   refine zd [O 0,O 1,O 2,O 3,O 4,O 5,O 6,O 8,O 9,E 7,E 10,E 11,E 12,E 13] (some 13) (λw'=>Blk w' w.heap.size #[.int .i64 1,.int .i64 k,.int .i64 s,.int .i64 d,.int .u32 0,.int .u32 0,.int .u32 0,.int .u32 0,.string (bs data)] 182/\Blk w' (w.heap.size+1) #[.int .i64 inst,.int .u64 (ballot:Nat)] 171/\Blk w' vb #[.int .u64 (v1:Nat),.int .u64 (v2:Nat),.string (bs v3)] 317/\True) (by kernel_rfl) (by kernel_rfl) ⟨ap.drew,ay.drew,az.drew,trivial⟩ ?_
   refine Wl ?_
   refine zc rfl (λJ hJ=>?_);go_wp2_with fail
   refine(ba.out _).mono ?_;rintro e w4⟨rfl,cd⟩;have ab:Below w3.heap.size w3 w4:=ze (zm (N2 _ _)) cd;go_wp2;refine hJ.out _ _ (λ_=>⟨ap.call ab,ay.call ab,az.call ab,trivial⟩) ?_;clear hJ J;refine zc rfl (λJ hJ=>?_);go_wp2;refine hJ.out _ _ (λ_=>⟨(ap.call ab).alloc _,(ay.call ab).alloc _,(az.call ab).alloc _,trivial⟩) ?_;clear hJ J;refine zc rfl (λJ hJ=>?_);go_wp2_with fail
   refine(au.out _ _ (jD (n:=2) (size:=1) (cap:=2) (Blk.new rfl) rfl (N0 2))).mono ?_;rintro e w5⟨rfl,ci⟩;have ac:Below w3.heap.size w3 w5:=ze (zi ab _) ci;go_wp2;refine hJ.out _ _ (λ_=>⟨ap.call ac,ay.call ac,az.call ac,trivial⟩) ?_;clear hJ J;refine zc rfl (λJ hJ=>?_);go_wp2;refine hJ.out _ _ (λ_=>⟨(ap.call ac).alloc _,(ay.call ac).alloc _,(az.call ac).alloc _,trivial⟩) ?_;clear hJ J;refine zc rfl (λJ hJ=>?_);go_wp2_with fail
   obtain⟨W6,bi⟩:∃W6,W6=w5.alloc (.cells #[.int .i64 1,.int .i64 4,.int .i64 i,.int .i64 s,.int .u32 0,.int .u32 0,.int .u32 0,.int .u32 0,.string (bs dat)] 182):=⟨_,rfl⟩;have a1:Below w3.heap.size w3 W6:=by rw [bi];exact zi ac _
   have k6:Blk W6 w5.heap.size #[.int .i64 1,.int .i64 4,.int .i64 i,.int .i64 s,.int .u32 0,.int .u32 0,.int .u32 0,.int .u32 0,.string (bs dat)] 182:=by rw [bi];exact Blk.new rfl
   rw [← bi];refine(ae.out W6 (bv.cut w3) _ ⟨tv,lp,(zk.loc B K tv lp _ t).cut bk a1⟩ k6).mono ?_;rintro e w7⟨rfl,ch,ck,ce⟩;go_wp2;refine hJ.out _ _ (λhh=>absurd rfl hh) ?_;clear hJ J;refine zg ?_;go_wp2;go_end0
   exact⟨rfl,ch,aj.trans (zp.wrap a1 ck),by rw [← ad.out];exact ce⟩
  have t2:(er==0)=false:=by simpa using he
  have ad:=ar.out;rw [if_neg he] at ad;clear he;go_wp2;go_end0
  exact⟨rfl,bv,aj,by rw [← ad];exact⟨tv,lp,bk⟩⟩
end
section
def zk8(p:xM):Prop:=∀i x,zH i p.known=some x->x.length<=4000
theorem zg9 {p:xM}(h:zk8 p)(i:Int)(x:List UInt8):zk8 (zV p i x).1:=by
 unfold zV
 split
 ·exact h
 rename_i hx
 split
 ·split<;>exact h
 intro j y hj
 simp only at hj;rw [yF] at hj
 split at hj
 ·cases hj;omega
 exact h j y hj
theorem zeF {p:xM}(h:zk8 p)(s:List UInt8):zk8 (vl p s):=by
 unfold vl
 split
 ·exact h
 split
 ·exact zg9 h _ _
 split
 ·exact h
 exact h
theorem zlQ(l:List (List UInt8)):zk8 (RR l).2:=by
 unfold RR
 suffices H:∀(l:List (List UInt8)) (q:List zx×xM),zk8 q.2->zk8 (l.foldl jU q).2 from H l _ (λi x h=>by simp [qx,zH] at h)
 intro l
 induction l with
 |nil=>intro q h;exact h
 |cons r l ih=>
  intro q h;refine ih _ ?_;unfold jU
  split
  ·exact h
  split
  ·exact h
  exact zeF h _
theorem vm.klen {v:Int}{n:zq}(h:vm v n)(hd:n.down=false):zk8 n.pax:=by
 obtain⟨⟨l,hi⟩, -⟩:=h.ok;rw [(hi.up hd).2.2];exact zlQ l
theorem zde(n:zq)(i:Int)(b:Nat):(zy n i b).2.1.2.2.length<=4000:=by
 have hv:∀v,(yl v b).1.2.2.length<=4000:=λv=>by
  unfold yl
  split
  ·simp
  rename_i h1
  split
  ·simp
  have h2:j9 v=true:=by
   by_cases hh:j9 v=true
   ·exact hh
   exact absurd (.inl (by simpa using hh)) h1
  unfold j9 at h2;simp only [Bool.and_eq_true,decide_eq_true_eq] at h2;exact h2.2
 have hp:(zA n.pax i b).2.1.2.2.length<=4000:=by
  unfold zA
  split
  ·simp
  split
  ·simp
  exact hv _
 unfold zy
 split
 ·simp
 split
 ·simp
 split
 ·simp
 exact hp
end
open Go Go.RowKit Go.Shelf Go.Extern.Stop Go.Stop Go.Extern
attribute [local go_sem] Oper.semAt_some zB zo
theorem jC:∀ {l:List jV} {i j:Nat} {s:jV},l[i]?=some s->j<5->(l.flatMap jZ)[i*5+j]?=(jZ s)[j]?
 | [],i,j,s,h,_=>by simp at h
 |x::l,0,j,s,h,hj=>by
  simp only [List.getElem?_cons_zero,Option.some.injEq] at h;subst h;rw [List.flatMap_cons,U8 (by simp only [jZ,List.length_cons,List.length_nil];omega),Nat.zero_mul,Nat.zero_add]
 |x::l,i+1,j,s,h,hj=>by
  simp only [List.getElem?_cons_succ] at h;rw [List.flatMap_cons,U6 (by simp only [jZ,List.length_cons,List.length_nil];omega)];have:=jC h hj;rw [← this]
  congr 1
  simp only [jZ,List.length_cons,List.length_nil];omega
theorem zdf {v:Value}{j:Nat}{s s':jV}(hj:j<5)(he:(jZ s).set j v=jZ s'):∀ {l:List jV} {i:Nat},l[i]?=some s->(l.flatMap jZ).set (i*5+j) v=(l.set i s').flatMap jZ
 | [],i,h=>by simp at h
 |x::l,0,h=>by
  simp only [List.getElem?_cons_zero,Option.some.injEq] at h;subst h;rw [List.set_cons_zero,List.flatMap_cons,List.flatMap_cons,List.set_append_left _ _ (by simp only [jZ,List.length_cons,List.length_nil];omega),Nat.zero_mul,Nat.zero_add,he]
 |x::l,i+1,h=>by
  simp only [List.getElem?_cons_succ] at h;have h5:(jZ x).length=5:=rfl;rw [List.set_cons_succ,List.flatMap_cons,List.flatMap_cons,List.set_append_right _ _ (by rw [h5];omega),h5,show(i+1)*5+j - 5=i*5+j by omega,zdf hj he h]
theorem zk.setSeat {B:Nat}{K:WK}{tv:Value}{lp:Nat->Option Nat}{S:zf}{t:List Nat}{ow:Own}{W:World}(h:zk B K tv lp S t ow W){i j:Nat}{s s':jV}{v:Value}(hs:S.seats[i]?=some s)(hj:j<5)(he:(jZ s).set j v=jZ s'):
 zp (t++ [21]) ow W ow (W.setCell ⟨K.sb,i*5+j,none⟩ v)/\zk B K tv lp (setSeat S i s') t ow (W.setCell ⟨K.sb,i*5+j,none⟩ v):=by
 obtain⟨o,hl,hB⟩:=h.srow;have aa:zp (t++ [21]) ow W ow (W.setCell ⟨K.sb,i*5+j,none⟩ v):=zp.setCell W _ _ (by rw [o];exact Sub.rfl' _);refine⟨aa,h.setPart 21 aa rfl (λj' hj'=>?_) ⟨o,by simpa [Go.Proofs.YtofppfoioodblaaGreatDoor.setSeat] using hl,hB.setL (zdf hj he hs)⟩⟩;unfold xW Go.Proofs.YtofppfoioodblaaGreatDoor.setSeat;simp only [if_neg hj']
theorem zeG(B:Nat)(K:WK)(S:zf){v:Int}{k0 L:Nat}(hG:zr v k0 L S)(hL:L<=3000000000)(t:List Nat)(ht:t≠ [])(ow:Own)(a:Addr)(i s:Nat)(hi:i<S.nodes.length)(hs:s<S.nodes.length)(kd d:Int)(data:List UInt8)(hd:data.length<=4096)(hup:(zn S i).down=false)(w:World)(h:zK B K S t ow w)
 (he:jv w a) (hge:ow 2=[]):
 Calls prog 101 #[.pointer (some ⟨B,0,none⟩),.int .i64 i,J9 kd s d data] w (qK B K (yG S i (qW kd s d data)) t ow w (.tuple #[])):=by
 have ay:=hG.room hL;have aj:i<16:=by have:=hG.n0;omega
 have al:s<16:=by have:=hG.n0;omega
 have ag:=λW=>zjb kd s d data hd W
 unfold J9 at*;unfold zlO at ag
 by_cases h12:data.length<12
 ·have ad:yG S i (qW kd s d data)=S:=by unfold yG;rw [if_pos (show(qW kd s d data).data.length<12 from h12)]
  rw [ad];rw [if_pos h12] at ag;replace ag:=hid ag;clear ad h12;obtain⟨tv,lp,hI⟩:=h
  go_enter func101,ntmps101
  go_wp2_with fail
  refine(ag.out _).mono ?_;rintro e w1⟨rfl,af⟩;have ae:=(show Blk (w.alloc (.cells #[.int .i64 1,.int .i64 kd,.int .i64 s,.int .i64 d,.int .u32 0,.int .u32 0,.int .u32 0,.int .u32 0,.string (bs data)] 182)) w.heap.size #[.int .i64 1,.int .i64 kd,.int .i64 s,.int .i64 d,.int .u32 0,.int .u32 0,.int .u32 0,.int .u32 0,.string (bs data)] 182 from Blk.new rfl).call af;have ac:Below w.heap.size w w1:=ze (zi (N2 _ _) _) af;have bm:=(zk.loc B K tv lp S t).below hI (zi ac (.cells #[.int .i64 0,.int .u64 0] 171));go_wp2;go_end0
  exact⟨rfl,ow,zp.of_below t ow (zi ac _),tv,lp,bm⟩
 rw [if_neg h12] at ag
 obtain⟨inst,ax⟩:∃x:Int,((zW data 0:Nat):Int)=x:=⟨_,rfl⟩;obtain⟨ballot,au⟩:∃x,zW data 4+4294967296*zW data 8=x:=⟨_,rfl⟩;obtain⟨more,ar⟩:∃x,data.drop 12=x:=⟨_,rfl⟩
 have bk:ballot<18446744073709551616:=by
  have b1:=Z5 ((data.drop 4).take 4);have b2:=Z5 ((data.drop 8).take 4);unfold zW at au;omega
 have bq:more.length<=4096:=by rw [← ar,U3];omega
 have ad:yG S i (qW kd s d data)=if kd=3∨kd=5 then yN S i (qW kd s d data) inst ballot more
  else if kd=4 then countPromise S i s inst ballot more
  else if kd=6 then countVote S i s inst ballot
  else if kd=7 then setNode (qk S i) i (jd (zn S i) inst more).1
  else S:=by
  unfold yG;rw [if_neg (show¬(qW kd s d data).data.length<12 from h12),← ax,← au,← ar];rfl
 rw [ax,au,ar] at ag;unfold xX at ag;obtain⟨tv,lp,hI⟩:=h;replace ag:=hid ag;replace ax:=hid ax;replace au:=hid au;replace ar:=hid ar
 by_cases k35:kd=3∨kd=5
 ·rw [if_pos k35] at ad
  rw [ad];have ah:=λW ow hW=>zg8 B K S t ht ow i s hi al kd d data inst ballot bk more (by omega) W hW ay (hG.node hi).2.ok.2 (λx hx=>by have:=(hG.node hi).2.klen hup _ _ hx;omega) (by have:=zde (zn S i) inst ballot;omega)
  unfold J9 xX at ah;replace ah:=hid ah;replace ad:=hid ad
  rcases k35 with hk|hk
  have q3:(kd==3)=true:=by simp [hk]
  rotate_left
  have q3:(kd==3)=false:=by simp [hk]
  have q5:(kd==5)=true:=by simp [hk]
  all_goals
   clear hk
   go_enter func101,ntmps101
   go_wp2_with fail
   refine(ag.out _).mono ?_;rintro e w1⟨rfl,af⟩;have ae:=(show Blk (w.alloc (.cells #[.int .i64 1,.int .i64 kd,.int .i64 s,.int .i64 d,.int .u32 0,.int .u32 0,.int .u32 0,.int .u32 0,.string (bs data)] 182)) w.heap.size #[.int .i64 1,.int .i64 kd,.int .i64 s,.int .i64 d,.int .u32 0,.int .u32 0,.int .u32 0,.int .u32 0,.string (bs data)] 182 from Blk.new rfl).call af;have ac:Below w.heap.size w w1:=ze (zi (N2 _ _) _) af;obtain⟨w2,aa⟩:∃x,x=w1.alloc (.cells #[.int .i64 inst,.int .u64 (ballot:Nat)] 171):=⟨_,rfl⟩;have ab:Below w.heap.size w w2:=by rw [aa];exact zi ac _
   have aw:Blk w2 w.heap.size #[.int .i64 1,.int .i64 kd,.int .i64 s,.int .i64 d,.int .u32 0,.int .u32 0,.int .u32 0,.int .u32 0,.string (bs data)] 182:=by rw [aa];exact ae.alloc _
   have an:Blk w2 w1.heap.size #[.int .i64 inst,.int .u64 (ballot:Nat)] 171:=by rw [aa];exact Blk.new rfl
   have c1:=ae.cell;have l1:=ae.lt;have c2:=(ae.alloc (.cells #[.int .i64 inst,.int .u64 (ballot:Nat)] 171)).cell;have ai:=(zk.loc B K tv lp S t).cut hI ab;replace aa:=hid aa;go_wp2_with fail
   rw [← aa.out];refine(ah.out _ _ ⟨tv,lp,ai⟩).mono ?_;rintro e w3⟨rfl,ao,ap,aq⟩;go_wp2;go_end0
   exact⟨rfl,ao,zp.wrap ab ap,aq⟩
 rw [if_neg k35] at ad
 have q3:(kd==3)=false:=by simp;omega
 have q5:(kd==5)=false:=by simp;omega
 clear k35
 by_cases k4:kd=4
 ·rw [if_pos k4] at ad
  rw [ad];have q4:(kd==4)=true:=by simp [k4]
  have ah:=λW ow hW=>V1 B K S t ht ow i s aj al inst ballot more (by omega) W hW ay (λl hl=>by have h1:=hG.leads i l hl;have h2:=List.count_le_length (a:=true) (l:=l.promised);have h3:=h1.pc;have h4:=h1.pn;omega)
  unfold xX at ah;replace ah:=hid ah;replace ad:=hid ad;clear k4
  go_enter func101,ntmps101
  go_wp2_with fail
  refine(ag.out _).mono ?_;rintro e w1⟨rfl,af⟩;have ae:=(show Blk (w.alloc (.cells #[.int .i64 1,.int .i64 kd,.int .i64 s,.int .i64 d,.int .u32 0,.int .u32 0,.int .u32 0,.int .u32 0,.string (bs data)] 182)) w.heap.size #[.int .i64 1,.int .i64 kd,.int .i64 s,.int .i64 d,.int .u32 0,.int .u32 0,.int .u32 0,.int .u32 0,.string (bs data)] 182 from Blk.new rfl).call af;have ac:Below w.heap.size w w1:=ze (zi (N2 _ _) _) af;obtain⟨w2,aa⟩:∃x,x=w1.alloc (.cells #[.int .i64 inst,.int .u64 (ballot:Nat)] 171):=⟨_,rfl⟩;have ab:Below w.heap.size w w2:=by rw [aa];exact zi ac _
  have aw:Blk w2 w.heap.size #[.int .i64 1,.int .i64 kd,.int .i64 s,.int .i64 d,.int .u32 0,.int .u32 0,.int .u32 0,.int .u32 0,.string (bs data)] 182:=by rw [aa];exact ae.alloc _
  have an:Blk w2 w1.heap.size #[.int .i64 inst,.int .u64 (ballot:Nat)] 171:=by rw [aa];exact Blk.new rfl
  have c1:=ae.cell;have l1:=ae.lt;have c2:=(ae.alloc (.cells #[.int .i64 inst,.int .u64 (ballot:Nat)] 171)).cell;have ai:=(zk.loc B K tv lp S t).cut hI ab;replace aa:=hid aa;go_wp2_with fail
  rw [← aa.out];refine(ah.out _ _ ⟨tv,lp,ai⟩).mono ?_;rintro e w3⟨rfl,ao,ap,aq⟩;go_wp2;go_end0
  exact⟨rfl,ao,zp.wrap ab ap,aq⟩
 rw [if_neg k4] at ad
 have q4:(kd==4)=false:=by simpa using k4
 clear k4
 by_cases k6:kd=6
 ·rw [if_pos k6] at ad
  rw [ad];have q6:(kd==6)=true:=by simp [k6]
  have ah:=λW ow hW=>zbC B K S t ht ow i s aj al inst ballot W hW ay (λl hl=>by have h1:=hG.leads i l hl;have h2:=List.count_le_length (a:=true) (l:=l.voted);have h3:=h1.vc;have h4:=h1.vn;have h5:=h1.value;exact⟨by omega,by omega⟩)
  unfold xX at ah;replace ah:=hid ah;replace ad:=hid ad;clear k6
  go_enter func101,ntmps101
  go_wp2_with fail
  refine(ag.out _).mono ?_;rintro e w1⟨rfl,af⟩;have ae:=(show Blk (w.alloc (.cells #[.int .i64 1,.int .i64 kd,.int .i64 s,.int .i64 d,.int .u32 0,.int .u32 0,.int .u32 0,.int .u32 0,.string (bs data)] 182)) w.heap.size #[.int .i64 1,.int .i64 kd,.int .i64 s,.int .i64 d,.int .u32 0,.int .u32 0,.int .u32 0,.int .u32 0,.string (bs data)] 182 from Blk.new rfl).call af;have ac:Below w.heap.size w w1:=ze (zi (N2 _ _) _) af;obtain⟨w2,aa⟩:∃x,x=w1.alloc (.cells #[.int .i64 inst,.int .u64 (ballot:Nat)] 171):=⟨_,rfl⟩;have ab:Below w.heap.size w w2:=by rw [aa];exact zi ac _
  have aw:Blk w2 w.heap.size #[.int .i64 1,.int .i64 kd,.int .i64 s,.int .i64 d,.int .u32 0,.int .u32 0,.int .u32 0,.int .u32 0,.string (bs data)] 182:=by rw [aa];exact ae.alloc _
  have an:Blk w2 w1.heap.size #[.int .i64 inst,.int .u64 (ballot:Nat)] 171:=by rw [aa];exact Blk.new rfl
  have c1:=ae.cell;have l1:=ae.lt;have c2:=(ae.alloc (.cells #[.int .i64 inst,.int .u64 (ballot:Nat)] 171)).cell;have ai:=(zk.loc B K tv lp S t).cut hI ab;replace aa:=hid aa;go_wp2_with fail
  rw [← aa.out];refine(ah.out _ _ ⟨tv,lp,ai⟩).mono ?_;rintro e w3⟨rfl,ao,ap,aq⟩;go_wp2;go_end0
  exact⟨rfl,ao,zp.wrap ab ap,aq⟩
 rw [if_neg k6] at ad
 have q6:(kd==6)=false:=by simpa using k6
 clear k6
 by_cases k7:kd=7
 ·rw [if_pos k7] at ad
  have q7:(kd==7)=true:=by simp [k7]
  clear k7;have bn:=(hI.srow).2.2;have a3:=hG.seat hi;obtain⟨S1,a0⟩:∃S1,qk S i=S1:=⟨_,rfl⟩;rw [a0] at ad;rw [ad];replace ad:=hid ad
  go_enter func101,ntmps101
  go_wp2_with fail
  refine(ag.out _).mono ?_;rintro e w1⟨rfl,af⟩;have ae:=(show Blk (w.alloc (.cells #[.int .i64 1,.int .i64 kd,.int .i64 s,.int .i64 d,.int .u32 0,.int .u32 0,.int .u32 0,.int .u32 0,.string (bs data)] 182)) w.heap.size #[.int .i64 1,.int .i64 kd,.int .i64 s,.int .i64 d,.int .u32 0,.int .u32 0,.int .u32 0,.int .u32 0,.string (bs data)] 182 from Blk.new rfl).call af;have ac:Below w.heap.size w w1:=ze (zi (N2 _ _) _) af;obtain⟨w2,aa⟩:∃x,x=w1.alloc (.cells #[.int .i64 inst,.int .u64 (ballot:Nat)] 171):=⟨_,rfl⟩;have ab:Below w.heap.size w w2:=by rw [aa];exact zi ac _
  have aw:Blk w2 w.heap.size #[.int .i64 1,.int .i64 kd,.int .i64 s,.int .i64 d,.int .u32 0,.int .u32 0,.int .u32 0,.int .u32 0,.string (bs data)] 182:=by rw [aa];exact ae.alloc _
  have an:Blk w2 w1.heap.size #[.int .i64 inst,.int .u64 (ballot:Nat)] 171:=by rw [aa];exact Blk.new rfl
  have c1:=ae.cell;have l1:=ae.lt;have c2:=(ae.alloc (.cells #[.int .i64 inst,.int .u64 (ballot:Nat)] 171)).cell;have ai:=(zk.loc B K tv lp S t).cut hI ab;replace aa:=hid aa;have a9:=ai.blk;obtain⟨bo,bp,az⟩:=ai.srow;have e2:=az.cellL (jC a3 (j:=3) (by decide));have f2:=az.frozen;have a8:=az.lt;have g2:=a9.cell;rw [aa.out] at e2 f2 a8 g2;have y0:(0:Int)<=(i:Int):=by omega
  have y1:(i:Int)<(S.nodes.length:Int):=by omega
  go_wp2_with fail
  obtain⟨ak,am⟩:=ai.setSeat (v:=.bool true) (s':={jj S i with stale:=true}) a3 (j:=3) (by decide) rfl;rw [show setSeat S i {jj S i with stale:=true} =S1 from a0] at am;rw [← aa.out];have bj:(ow.cut w) w1.heap.size=[]:=Own.cut_new ac.size;have bc:(ow.cut w) 2=[]:=(Own.cut_old he.lt).trans hge;have bi:2<w2.heap.size:=Nat.lt_of_lt_of_le he.lt ab.size;have a6:jv (w2.setCell ⟨K.sb,i*5+3,none⟩ (.bool true)).drew a:=(ak.cell (p:=⟨2,0,none⟩) bi (by show¬Sub _ ((ow.cut w) 2);rw [bc];exact zj (by simp))).trans (he.below ab he.lt);have bb:=an.kept (ak.block an.lt (by rw [bj];exact zj (by simp)));obtain⟨w3,a5⟩:∃x,x=w2.setCell ⟨K.sb,i*5+3,none⟩ (.bool true):=⟨_,rfl⟩;rw [← a5] at ak am a6 bb⊢;clear a5 e2 f2 a8 g2 a9;have be:S1.nodes=S.nodes:=by rw [← a0];rfl
  obtain⟨b,a4,px,sb,lb,pb,av,hN⟩:=am.node aj (m:=zn S i) (by rw [be];exact(hG.node hi).1);have bf:=am.nodeCell a4;have bd:=am.blk;have a2:=(hG.node hi).2;have ba:=a2.ok.bounds;have a1:=zgO a b (zn S i) (t++ [i]) (by simp) (ow.cut w) inst more (by omega) w3.drew ((zw.loc _ _ _ _ _ _ _ _).below hN (zm (N2 _ _))) a2.ok.2 a6 bc ba.2.2.2 ba.2.2.1 (by omega) a2.known;rw [be] at bd
  generalize S.nodes.length=N at*
  replace a1:=hid a1;refine zd [O 0,O 1,O 2,O 3,O 4,O 5,O 6,O 7,O 8,O 9,E 10] (some 10) (λw'=>w'.cell? ⟨K.nb,i,none⟩=some (.pointer (some ⟨b,0,none⟩))/\Blk w' B #[.slice (some ⟨K.nb,0,none⟩) N K.nc,.slice (some ⟨K.sb,0,none⟩) N N,.map (some K.lm),.pointer (some ⟨K.fb,0,none⟩),.map (some K.hm),.map (some K.dm),tv] 65/\Blk w' w1.heap.size #[.int .i64 inst,.int .u64 (ballot:Nat)] 171/\True) (by kernel_rfl) (by kernel_rfl) ⟨bf,bd.drew,bb.drew,trivial⟩ ?_
  refine Wg ?_
  refine zc rfl (λJ hJ=>?_);go_wp2_with fail
  refine a1.out.mono ?_;rintro e w4⟨v4,bl,rfl,a7,bh, -, -⟩;go_wp2;refine hJ.out _ _ (λhh=>absurd rfl hh) ?_;clear hJ J;refine zg ?_;have bg:=((zk.loc B K tv lp S1 t).below am (zm (N2 _ _))).setNode aj a4 a7 bh;go_wp2;go_end0
  exact⟨rfl,bl,zp.wrap ab ((ak.mono (Sub.child t 21)).trans ((zp.of_below t _ (zm (N2 _ _))).trans (a7.mono (Sub.child t i)))),tv,lp,bg⟩
 rw [if_neg k7] at ad
 rw [ad];have q7:(kd==7)=false:=by simpa using k7
 replace ad:=hid ad;clear k7
 go_enter func101,ntmps101
 go_wp2_with fail
 refine(ag.out _).mono ?_;rintro e w1⟨rfl,af⟩;have ae:=(show Blk (w.alloc (.cells #[.int .i64 1,.int .i64 kd,.int .i64 s,.int .i64 d,.int .u32 0,.int .u32 0,.int .u32 0,.int .u32 0,.string (bs data)] 182)) w.heap.size #[.int .i64 1,.int .i64 kd,.int .i64 s,.int .i64 d,.int .u32 0,.int .u32 0,.int .u32 0,.int .u32 0,.string (bs data)] 182 from Blk.new rfl).call af;have ac:Below w.heap.size w w1:=ze (zi (N2 _ _) _) af;obtain⟨w2,aa⟩:∃x,x=w1.alloc (.cells #[.int .i64 inst,.int .u64 (ballot:Nat)] 171):=⟨_,rfl⟩;have ab:Below w.heap.size w w2:=by rw [aa];exact zi ac _
 have aw:Blk w2 w.heap.size #[.int .i64 1,.int .i64 kd,.int .i64 s,.int .i64 d,.int .u32 0,.int .u32 0,.int .u32 0,.int .u32 0,.string (bs data)] 182:=by rw [aa];exact ae.alloc _
 have an:Blk w2 w1.heap.size #[.int .i64 inst,.int .u64 (ballot:Nat)] 171:=by rw [aa];exact Blk.new rfl
 have c1:=ae.cell;have l1:=ae.lt;have c2:=(ae.alloc (.cells #[.int .i64 inst,.int .u64 (ballot:Nat)] 171)).cell;have ai:=(zk.loc B K tv lp S t).cut hI ab;replace aa:=hid aa;go_wp2;go_end0
 rw [← aa.out];exact⟨rfl,_,zp.wrap ab (zp.refl _ _ _),tv,lp,ai⟩
