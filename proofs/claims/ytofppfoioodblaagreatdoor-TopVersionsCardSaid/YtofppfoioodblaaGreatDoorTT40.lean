/- PARTS OF THE PROOF. -/
import Derived.Test.YtofppfoioodblaaGreatDoorTT28
import Derived.Test.YtofppfoioodblaaGreatDoorTT36
import Derived.Test.YtofppfoioodblaaGreatDoorTT39
set_option maxRecDepth 8000
set_option maxHeartbeats 4000000
open Go.Proofs.Tryz
namespace Go.Proofs.YtofppfoioodblaaGreatDoor
section
open Go Go.RowKit Go.Shelf Go.Extern.Stop Go.Stop Go.Extern
attribute [local go_sem] Oper.semAt_some zv zm
theorem zbV {px sb lb pb:Nat}{av:Value}{n:zp}{t:List Nat}{ow:Own}{B:Nat}(i:Int)(w:World)(h:zx B px sb lb pb av n t ow w):Calls prog 200 #[.pointer (some ⟨B,0,none⟩),.int .i64 i] w λe w'=>e=.returned (.tuple #[.string (bs ((zD i n.pax.known).getD [])),.bool (zD i n.pax.known).isSome])/\Below w.heap.size w w':=by
 have hB:=h.blk;have hn:=Zw w hB;have hp:=JE px n.pax (t++ [0]) ow i w h.pax;unfold zz at hB;have e0:=hB.cell;replace hn:=hid hn;replace hp:=hid hp;replace hB:=hid hB;clear h
 go_enter func200,ntmps200
 go_wp2_with fail
 refine hn.out.mono ?_;rintro e w1⟨rfl,rfl⟩;go_wp2_with fail
 refine hp.out.mono ?_;rintro e w1⟨rfl,hb1⟩;go_wp2;go_ret2
 exact⟨rfl,hb1⟩
theorem zk.nodeCell {B:Nat}{K:WK}{tv:Value}{lp:Nat->Option Nat}{S:zf}{t:List Nat}{ow:Own}{W:World}(h:zk B K tv lp S t ow W){i b:Nat}(hb:K.nl[i]?=some b):W.cell? ⟨K.nb,i,none⟩=some (.pointer (some ⟨b,0,none⟩)):=by
 obtain⟨-, -,hR⟩:=h.nrow
 rcases hR.src.2 with⟨h1,h2⟩|⟨g,off,cap,hv, -,hr⟩
 ·cases h1
 ·cases hv
  have:=hr i (.pointer (some ⟨b,0,none⟩)) (by unfold vu;rw [List.getElem?_map,hb];rfl)
  rwa [Nat.zero_add] at this
theorem yK.modFree {t:List Nat}(ht:t≠ []){A:Own->World->Prop}(hA:yK t A){ow:Own}{w w':World}(h:A ow w){v:Nat}(hv:ow v=[])(hM:Mod (λk=>k=v) w w'):A ow w':=
 hA _ _ _ _ h hM.size (λk hk hs=>⟨rfl,hM.block k hk (λe=>by subst e;rw [hv] at hs;exact zj ht hs)⟩)
theorem zq.modNew {t:List Nat}{ow ow':Own}{w w' w2:World}(h:zq t ow w ow' w'){v:Nat}(hv:w.heap.size<=v)(hM:Mod (λk=>k=v) w' w2):zq t ow w ow' w2:=
 ⟨h.mod.trans hM (λ_ _ e=>e) (λk hk e=>absurd e (by omega)),h.agree⟩
theorem zfP(B:Nat)(K:WK)(S:zf)(t:List Nat)(ht:t≠ [])(ow:Own)(i s:Nat)(hi:i<S.nodes.length)(hs:s<16)(k d:Int)(data:List UInt8)(inst:Int)(ballot:Nat)(hbl:ballot<18446744073709551616)(more:List UInt8)(hmr:more.length<=900000)(w:World)(h:zL B K S t ow w)(hg:zal S)(hcap:vz (zr S i).store)
 (hkn:∀x,zD inst (zr S i).pax.known=some x->x.length<=900000) (hpr:(zA (zr S i) inst ballot).2.1.2.2.length<=900000):
 Calls prog 151 #[.pointer (some ⟨B,0,none⟩),.int .i64 i,Jj k s d data,xE inst ballot,.string (bs more)] w (xZ B K (yO S i (qu k s d data) inst ballot more) t ow w (.tuple #[])):=by
 obtain⟨tv,lp,hI⟩:=h;have hi16:i<16:=by have:=hg.n0;omega
 unfold xE Jj;obtain⟨W0,hW0⟩:∃W0,W0=(w.alloc (.cells #[.int .i64 1,.int .i64 k,.int .i64 s,.int .i64 d,.int .u32 0,.int .u32 0,.int .u32 0,.int .u32 0,.string (bs data)] 182)).alloc (.cells #[.int .i64 inst,.int .u64 (ballot:Nat)] 171):=⟨_,rfl⟩;have hb0:Below w.heap.size w W0:=by rw [hW0];exact pbx
 have kf0:Blk W0 w.heap.size #[.int .i64 1,.int .i64 k,.int .i64 s,.int .i64 d,.int .u32 0,.int .u32 0,.int .u32 0,.int .u32 0,.string (bs data)] 182:=by rw [hW0];exact bkx
 have km0:Blk W0 (w.heap.size+1) #[.int .i64 inst,.int .u64 (ballot:Nat)] 171:=by rw [hW0];exact Blk.new (by simp)
 have hI0:=(zk.loc B K tv lp S t).cut hI hb0;have of0:(ow.cut w) w.heap.size=[]:=Own.cut_new (N0 _);have om0:(ow.cut w) (w.heap.size+1)=[]:=Own.cut_new (Nat.le_succ _);obtain⟨ow1,ho1⟩:∃o,ow.cut w=o:=⟨_,rfl⟩;rw [ho1] at hI0 of0 om0;obtain⟨b,hnb,px,sb,lb,pb,av,hN⟩:=hI0.node hi16 (m:=zr S i) (by unfold zr;rw [N3 hi];rfl);have hdc:=λW hW=>zbV (B:=b) (px:=px) (sb:=sb) (lb:=lb) (pb:=pb) (av:=av) (n:=zr S i) (t:=t++ [i]) (ow:=ow1) inst W hW
 have hc0:=hI0.nodeCell hnb;have kB0:=hI0.blk;obtain⟨N,hNN⟩:∃N,S.nodes.length=N:=⟨_,rfl⟩;rw [hNN] at hi;simp only [hNN] at kB0;have y0:(0:Int)<=(i:Int):=by omega
 have y1:(i:Int)<(N:Int):=by omega
 replace hdc:=hid hdc;replace hW0:=hid hW0;replace hkn:=hid hkn;replace hnb:=hid hnb;have c0:=kf0.cell
 cases hlk:zD inst (zr S i).pax.known with
 |some x=>
  rw [hlk] at hdc
  have hans:yO S i (qu k s d data) inst ballot more=XS S 7 i s (xF inst ballot x):=by
   rw [Vi (by have:=hg.last;omega)];unfold yO;rw [hlk];rfl
  rw [hans];have hxl:=hkn.out x hlk;have hlt:=λv W hv=>Zz 7 i s inst ballot v [x] W hv (by simp) (by simp;omega)
  rw [show [x].flatten=x by simp] at hlt;unfold xE Jj at hlt;have hsd:=λW ow b hW hb=>Xi B K S t ow b 7 i s (by omega) hi16 hs (xF inst ballot x) (by unfold xF;rw [N1,show(le4 (inst % 4294967296).toNat++le8 ballot).length=12 from rfl];omega) W hW hg.notes (by have:=hg.last;omega) hb
  unfold zk5 at hsd
  generalize xF inst ballot x=dat at*
  replace hlt:=hid hlt;replace hsd:=hid hsd;replace hans:=hid hans;replace hlk:=hid hlk
  go_enter func151,ntmps151
  go_wp2_with fail
  rw [← hW0.out];refine zd [O 0,O 1,O 2,O 3,O 4,O 5,O 6,O 7,O 8,E 9,O 10,O 11,O 12,O 13,O 14] none (λw'=>w'.cell? ⟨K.nb,i,none⟩=some (.pointer (some ⟨b,0,none⟩))/\Blk w' B #[.slice (some ⟨K.nb,0,none⟩) N K.nc,.slice (some ⟨K.sb,0,none⟩) N N,.map (some K.lm),.pointer (some ⟨K.fb,0,none⟩),.map (some K.hm),.map (some K.dm),tv] 65/\Blk w' (w.heap.size+1) #[.int .i64 inst,.int .u64 (ballot:Nat)] 171/\True) (by kernel_rfl) (by kernel_rfl) ⟨hc0,kB0.drew,km0.drew,trivial⟩ ?_
  (repeat (refine za (v:=?_) rfl rfl (λw' h=>?_) (λK k=>?_);rotate_left;obtain⟨f1,f2,f3,_⟩:=h;have e2:=f2.cell;have e3:=f3.cell;go_simp;(try with_reducible rfl);go_simp;refine k _ ?_;clear k K))
  refine zc rfl (λJ hJ=>?_);go_wp2_with fail
  refine(hdc.out _ ((zx.loc _ _ _ _ _ _ _ _).below hN (zo (N2 _ _)))).mono ?_;rintro e w1⟨rfl,hb1⟩;have hb01:Below W0.heap.size W0 w1:=zg (zo (N2 _ _)) hb1;have hc1:w1.cell? ⟨K.nb,i,none⟩=some (.pointer (some ⟨b,0,none⟩)):=(hb01.cell (p:=⟨K.nb,i,none⟩) (jH hc0)).trans hc0;go_wp2;refine hJ.out _ _ (λ_=>⟨hc1,kB0.call hb01,km0.call hb01,trivial⟩) ?_;clear hJ J
  (repeat (refine za (v:=?_) rfl rfl (λw' h=>?_) (λK k=>?_);rotate_left;obtain⟨f1,f2,f3,_⟩:=h;have e2:=f2.cell;have e3:=f3.cell;go_simp;(try with_reducible rfl);go_simp;refine k _ ?_;clear k K))
  refine ze ?_;clear c0 hc1;have km1:=km0.call hb01;have c1:=(kf0.call hb01).cell;have d1:=km1.cell;go_wp2_with fail
  refine(hlt.out _ _ (jM (n:=1) (size:=1) (cap:=1) (Blk.new rfl) rfl (N0 1))).mono ?_;rintro e w3⟨rfl,hb3⟩;have hb03:Below W0.heap.size W0 w3:=zg (zi hb01 _) hb3;go_wp2_with fail
  obtain⟨W4,hW4⟩:∃W4,W4=w3.alloc (.cells #[.int .i64 1,.int .i64 7,.int .i64 i,.int .i64 s,.int .u32 0,.int .u32 0,.int .u32 0,.int .u32 0,.string (bs dat)] 182):=⟨_,rfl⟩;have hb04:Below W0.heap.size W0 W4:=by rw [hW4];exact zi hb03 _
  have k4:Blk W4 w3.heap.size #[.int .i64 1,.int .i64 7,.int .i64 i,.int .i64 s,.int .u32 0,.int .u32 0,.int .u32 0,.int .u32 0,.string (bs dat)] 182:=by rw [hW4];exact Blk.new rfl
  rw [← hW4];refine(hsd.out W4 (ow1.cut W0) _ ⟨tv,lp,(zk.loc B K tv lp S t).cut hI0 hb04⟩ k4).mono ?_;rintro e w5⟨rfl,ow5,hs5,hW5⟩;go_wp2;go_end0
  exact⟨rfl,ow5,zq.wrap hb0 (by rw [ho1];exact zq.wrap hb04 hs5),hW5⟩
 |none=>
  rw [hlk] at hdc;have htc:t++ [i] ≠ []:=by simp
  have hlt0:=λkk W=>Zz kk i s inst ballot (.slice none 0 0) [] W ⟨rfl,.inl ⟨rfl,rfl⟩⟩ (by simp) (by simp)
  have hsd:=λS' kk (hkk:kk<=31) dat (hdl:dat.length<=1000000) W ow b hW h1 h2 hb=>Xi B K S' t ow b kk i s hkk hi16 hs dat hdl W hW h1 h2 hb
  rw [show([]:List (List UInt8)).flatten=[] from rfl] at hlt0;unfold xE Jj at hlt0;unfold zk5 at hsd;replace hsd:=hid hsd
  by_cases hk5:k=5
  ·subst hk5
   obtain⟨m',er,hcm⟩:∃a b,yE (zr S i) inst ballot more=(a,b):=⟨_,_,rfl⟩
   have hans:yO S i (qu 5 s d data) inst ballot more=if er=0 then XS (setNode S i m') 6 i s (xF inst ballot [])else setNode S i m':=by
    rw [Vi (by have:=hg.last;unfold setNode;simp only;omega)];unfold yO;rw [hlk];simp only [qu,if_true,hcm];rfl
   obtain⟨S',hS'⟩:∃S',(if er=0 then XS (setNode S i m') 6 i s (xF inst ballot [])else setNode S i m')=S':=⟨_,rfl⟩;rw [hans,hS'];replace hS':=hid hS';have hcast:=λW ow hN=>zhl (px:=px) (sb:=sb) (lb:=lb) (pb:=pb) (av:=av) b (zr S i) (t++ [i]) htc ow inst ballot hbl more (by omega) W hN hcap
   rw [hcm] at hcast;simp only at hcast;replace hlk:=hid hlk;replace hcast:=hid hcast;replace hlt0:=hid hlt0;replace hans:=hid hans;replace hcm:=hid hcm
   go_enter func151,ntmps151
   go_wp2_with fail
   rw [← hW0.out];refine zd [O 0,O 1,O 2,O 3,O 4,O 5,O 6,O 7,O 8,E 9,O 10,O 11,O 12,O 13,O 14] none (λw'=>w'.cell? ⟨K.nb,i,none⟩=some (.pointer (some ⟨b,0,none⟩))/\Blk w' B #[.slice (some ⟨K.nb,0,none⟩) N K.nc,.slice (some ⟨K.sb,0,none⟩) N N,.map (some K.lm),.pointer (some ⟨K.fb,0,none⟩),.map (some K.hm),.map (some K.dm),tv] 65/\Blk w' (w.heap.size+1) #[.int .i64 inst,.int .u64 (ballot:Nat)] 171/\True) (by kernel_rfl) (by kernel_rfl) ⟨hc0,kB0.drew,km0.drew,trivial⟩ ?_
   (repeat (refine za (v:=?_) rfl rfl (λw' h=>?_) (λK k=>?_);rotate_left;obtain⟨f1,f2,f3,_⟩:=h;have e2:=f2.cell;have e3:=f3.cell;go_simp;(try with_reducible rfl);go_simp;refine k _ ?_;clear k K))
   refine zc rfl (λJ hJ=>?_);go_wp2_with fail
   refine(hdc.out _ ((zx.loc _ _ _ _ _ _ _ _).below hN (zo (N2 _ _)))).mono ?_;rintro e w1⟨rfl,hb1⟩;have hb01:Below W0.heap.size W0 w1:=zg (zo (N2 _ _)) hb1;have hc1:w1.cell? ⟨K.nb,i,none⟩=some (.pointer (some ⟨b,0,none⟩)):=(hb01.cell (p:=⟨K.nb,i,none⟩) (jH hc0)).trans hc0;have kB1:=kB0.call hb01;have km1:=km0.call hb01;go_wp2;refine hJ.out _ _ (λ_=>⟨hc1,kB1,km1,trivial⟩) ?_;clear hJ J
   (repeat (refine za (v:=?_) rfl rfl (λw' h=>?_) (λK k=>?_);rotate_left;obtain⟨f1,f2,f3,_⟩:=h;have e2:=f2.cell;have e3:=f3.cell;go_simp;(try with_reducible rfl);go_simp;refine k _ ?_;clear k K))
   refine ze ?_;clear c0;have c1:=(kf0.call hb01).cell;go_wp2_with fail
   have hbD:Below W0.heap.size W0 w1.drew:=zo hb01;have hID:=(zk.loc B K tv lp S t).cut hI0 hbD;have hND:=(zx.loc _ _ _ _ _ _ _ _).cut hN hbD;have omD:(ow1.cut W0) (w.heap.size+1)=[]:=(Own.cut_old km0.lt).trans om0;have ofD:(ow1.cut W0) w.heap.size=[]:=(Own.cut_old kf0.lt).trans of0;obtain⟨owD,hoD⟩:∃o,ow1.cut W0=o:=⟨_,rfl⟩;rw [hoD] at hID hND omD ofD;refine zd [O 0,O 1,O 2,O 3,O 4,O 5,O 6,O 7,O 8,O 9,O 10,O 11,E 12,O 13] none (λw'=>w'.cell? ⟨K.nb,i,none⟩=some (.pointer (some ⟨b,0,none⟩))/\Blk w' B #[.slice (some ⟨K.nb,0,none⟩) N K.nc,.slice (some ⟨K.sb,0,none⟩) N N,.map (some K.lm),.pointer (some ⟨K.fb,0,none⟩),.map (some K.hm),.map (some K.dm),tv] 65/\Blk w' (w.heap.size+1) #[.int .i64 inst,.int .u64 (ballot:Nat)] 171/\True) (by kernel_rfl) (by kernel_rfl) ⟨hc1,kB1.drew,km1.drew,trivial⟩ ?_
   (repeat (refine za (v:=?_) rfl rfl (λw' h=>?_) (λK k=>?_);rotate_left;obtain⟨f1,f2,f3,_⟩:=h;have e2:=f2.cell;have e3:=f3.cell;go_simp;(try with_reducible rfl);go_simp;refine k _ ?_;clear k K))
   refine zc rfl (λJ hJ=>?_);go_wp2_with fail
   refine(hcast.out _ _ hND).mono ?_;rintro e w2⟨rfl,ow2,hs2,hN2⟩;have hI2:=hID.setNode hi16 hnb.out hs2 hN2;have km2:=km1.drew.kept (hs2.block km1.drew.lt (by rw [omD];exact zj htc));have kf2:=(kf0.call hbD).kept (hs2.block (kf0.call hbD).lt (by rw [ofD];exact zj htc));have hst2:zq t ow w ow2 w2:=zq.wrap hb0 (by rw [ho1];exact zq.wrap hbD (by rw [hoD];exact hs2.mono (Sub.child t i)));have kB2:=kB1.drew.kept (hs2.block kB1.drew.lt (qq t i hID.own));have hc2:=hI2.nodeCell hnb.out;go_wp2;refine hJ.out _ _ (λ_=>⟨hc2,kB2,km2,trivial⟩) ?_;clear hJ J c1 hc1 hc2
   (repeat (refine za (v:=?_) rfl rfl (λw' h=>?_) (λK k=>?_);rotate_left;obtain⟨f1,f2,f3,_⟩:=h;have e2:=f2.cell;have e3:=f3.cell;go_simp;(try with_reducible rfl);go_simp;refine k _ ?_;clear k K))
   refine ze ?_;have c2:=kf2.cell;have d2:=km2.cell
   by_cases he:er=0
   ·subst he
    have hS2:=hS'.out;rw [if_pos rfl] at hS2;have hrm:zal (setNode S i m'):=⟨hg.notes,hg.last,by simpa [setNode] using hg.n0⟩;have hsd2:=λdat hdl W ow b hW hb=>hsd.out (setNode S i m') 6 (by omega) dat hdl W ow b hW hrm.notes (by have:=hrm.last;omega) hb
    replace hsd2:=hid hsd2;replace hS2:=hid hS2;replace hrm:=hid hrm;go_wp2_with fail
    refine(hlt0.out _ _).mono ?_;rintro e w3⟨rfl,hb3⟩;go_wp2_with fail
    obtain⟨W4,hW4⟩:∃W4,W4=w3.alloc (.cells #[.int .i64 1,.int .i64 6,.int .i64 i,.int .i64 s,.int .u32 0,.int .u32 0,.int .u32 0,.int .u32 0,.string (bs (xF inst ballot []))] 182):=⟨_,rfl⟩;have hb24:Below w2.heap.size w2 W4:=by rw [hW4];exact zi hb3 _
    have k4:Blk W4 w3.heap.size #[.int .i64 1,.int .i64 6,.int .i64 i,.int .i64 s,.int .u32 0,.int .u32 0,.int .u32 0,.int .u32 0,.string (bs (xF inst ballot []))] 182:=by rw [hW4];exact Blk.new rfl
    rw [← hW4];refine(hsd2.out _ (by unfold xF;rw [N1,show(le4 (inst % 4294967296).toNat++le8 ballot).length=12 from rfl];simp) W4 (ow2.cut w2) _ ⟨tv,lp,(zk.loc B K tv lp _ t).cut hI2 hb24⟩ k4).mono ?_;rintro e w5⟨rfl,ow5,hs5,hW5⟩;go_wp2;go_end0
    exact⟨rfl,ow5,hst2.trans (zq.wrap hb24 hs5),by rw [← hS2.out];exact hW5⟩
   ·have t2:(er==0)=false:=by simpa using he
    have hS2:=hS'.out;rw [if_neg he] at hS2;clear he;go_wp2;go_end0
    exact⟨rfl,ow2,hst2,by rw [← hS2];exact⟨tv,lp,hI2⟩⟩
  ·obtain⟨m',⟨v1,v2,v3⟩,er,hcm⟩:∃a v b,zA (zr S i) inst ballot=(a,v,b):=⟨_,_,_,rfl⟩
   rw [hcm] at hpr;simp only at hpr;have tk:(k==5)=false:=by simpa using hk5
   have hans:yO S i (qu k s d data) inst ballot more=if er=0 then XS (setNode S i m') 4 i s (xF inst ballot (le8 v2++v3))else setNode S i m':=by
    rw [Vi (by have:=hg.last;unfold setNode;simp only;omega)];unfold yO;rw [hlk];simp only [qu,if_neg hk5,hcm];rfl
   obtain⟨S',hS'⟩:∃S',(if er=0 then XS (setNode S i m') 4 i s (xF inst ballot (le8 v2++v3))else setNode S i m')=S':=⟨_,rfl⟩;rw [hans,hS'];replace hS':=hid hS';have hprom:=λW ow hN=>zbv (px:=px) (sb:=sb) (lb:=lb) (pb:=pb) (av:=av) b (zr S i) (t++ [i]) htc ow inst ballot hbl W hN hcap
   rw [hcm] at hprom;unfold zaa yN at hprom;simp only at hprom;have hlt:=λv W hv=>Zz 4 i s inst ballot v [le8 v2,v3] W hv (by simp) (by rw [show [le8 v2,v3].flatten=le8 v2++v3 by simp,N1,show(le8 v2).length=8 from rfl];omega)
   rw [show [le8 v2,v3].flatten=le8 v2++v3 by simp] at hlt;unfold xE Jj at hlt;have hput:=λW=>zef v2 W
   clear hk5 hlt0;replace hput:=hid hput;replace hlt:=hid hlt;replace hlk:=hid hlk;replace hprom:=hid hprom;replace hans:=hid hans;replace hcm:=hid hcm
   go_enter func151,ntmps151
   go_wp2_with fail
   rw [← hW0.out];refine zd [O 0,O 1,O 2,O 3,O 4,O 5,O 6,O 7,O 8,E 9,O 10,O 11,O 12,O 13,O 14] none (λw'=>w'.cell? ⟨K.nb,i,none⟩=some (.pointer (some ⟨b,0,none⟩))/\Blk w' B #[.slice (some ⟨K.nb,0,none⟩) N K.nc,.slice (some ⟨K.sb,0,none⟩) N N,.map (some K.lm),.pointer (some ⟨K.fb,0,none⟩),.map (some K.hm),.map (some K.dm),tv] 65/\Blk w' (w.heap.size+1) #[.int .i64 inst,.int .u64 (ballot:Nat)] 171/\True) (by kernel_rfl) (by kernel_rfl) ⟨hc0,kB0.drew,km0.drew,trivial⟩ ?_
   (repeat (refine za (v:=?_) rfl rfl (λw' h=>?_) (λK k=>?_);rotate_left;obtain⟨f1,f2,f3,_⟩:=h;have e2:=f2.cell;have e3:=f3.cell;go_simp;(try with_reducible rfl);go_simp;refine k _ ?_;clear k K))
   refine zc rfl (λJ hJ=>?_);go_wp2_with fail
   refine(hdc.out _ ((zx.loc _ _ _ _ _ _ _ _).below hN (zo (N2 _ _)))).mono ?_;rintro e w1⟨rfl,hb1⟩;have hb01:Below W0.heap.size W0 w1:=zg (zo (N2 _ _)) hb1;have hc1:w1.cell? ⟨K.nb,i,none⟩=some (.pointer (some ⟨b,0,none⟩)):=(hb01.cell (p:=⟨K.nb,i,none⟩) (jH hc0)).trans hc0;have kB1:=kB0.call hb01;have km1:=km0.call hb01;go_wp2;refine hJ.out _ _ (λ_=>⟨hc1,kB1,km1,trivial⟩) ?_;clear hJ J
   (repeat (refine za (v:=?_) rfl rfl (λw' h=>?_) (λK k=>?_);rotate_left;obtain⟨f1,f2,f3,_⟩:=h;have e2:=f2.cell;have e3:=f3.cell;go_simp;(try with_reducible rfl);go_simp;refine k _ ?_;clear k K))
   refine ze ?_;clear c0;have c1:=(kf0.call hb01).cell;go_wp2_with fail
   have hbD:Below W0.heap.size W0 w1.drew:=zo hb01;have hID:=(zk.loc B K tv lp S t).cut hI0 hbD;have hND:=(zx.loc _ _ _ _ _ _ _ _).cut hN hbD;have omD:(ow1.cut W0) (w.heap.size+1)=[]:=(Own.cut_old km0.lt).trans om0;have ofD:(ow1.cut W0) w.heap.size=[]:=(Own.cut_old kf0.lt).trans of0;obtain⟨owD,hoD⟩:∃o,ow1.cut W0=o:=⟨_,rfl⟩;rw [hoD] at hID hND omD ofD;refine xg [O 0,O 1,O 2,O 3,O 4,O 5,O 6,O 7,O 8,O 9,O 10] (some 11) (λw'=>w'.cell? ⟨K.nb,i,none⟩=some (.pointer (some ⟨b,0,none⟩))/\Blk w' B #[.slice (some ⟨K.nb,0,none⟩) N K.nc,.slice (some ⟨K.sb,0,none⟩) N N,.map (some K.lm),.pointer (some ⟨K.fb,0,none⟩),.map (some K.hm),.map (some K.dm),tv] 65/\Blk w' (w.heap.size+1) #[.int .i64 inst,.int .u64 (ballot:Nat)] 171/\True) #[true,true,true,true,true,true,true,true,true,true,true,false,false,false,false,false,false,false] (m:=7) (by kernel_rfl) (by kernel_rfl) ⟨hc1,kB1.drew,km1.drew,trivial⟩ ?_
   (repeat (refine zX (v:=?_) rfl rfl (λw' h=>?_) (λK k=>?_);rotate_left;obtain⟨f1,f2,f3,_⟩:=h;have e2:=f2.cell;have e3:=f3.cell;go_simp;(try with_reducible rfl);go_simp;refine k _ ?_;clear k K))
   refine yh (λ_=>?_);refine zbE 11 [15] (by kernel_rfl) ?_ (Qr ?_ zbF)
   ·refine zbH rfl (by decide) (λJ hJ=>?_)
    go_wp2_with fail
    refine(hprom.out _ _ hND).mono ?_;rintro e w2⟨rfl,ow2,hs2,hN2⟩;have hI2:=hID.setNode hi16 hnb.out hs2 hN2;have km2:=km1.drew.kept (hs2.block km1.drew.lt (by rw [omD];exact zj htc));have kf2:=(kf0.call hbD).kept (hs2.block (kf0.call hbD).lt (by rw [ofD];exact zj htc));have hst2:zq t ow w ow2 w2:=zq.wrap hb0 (by rw [ho1];exact zq.wrap hbD (by rw [hoD];exact hs2.mono (Sub.child t i)));go_wp2;refine hJ.out _ _ ?_;clear hJ J c1 hc1;refine qt [O 12,O 13,O 14,E 15,E 16,O 17] (by kernel_rfl) (λ_=>trivial) ?_
    (repeat (refine zX (v:=?_) rfl rfl (λw' h=>?_) (λK k=>?_);rotate_left;(focus (clear h;go_simp;(try with_reducible rfl)));(go_simp;refine k _ ?_;clear k K)))
    refine yB rfl (by simp) (λJ hJ=>?_);go_wp2;refine hJ.out _ _ trivial ?_;clear hJ J;refine yB rfl (by simp) (λJ hJ=>?_);go_wp2;refine hJ.out _ _ trivial ?_;clear hJ J
    (repeat (refine zX (v:=?_) rfl rfl (λw' h=>?_) (λK k=>?_);rotate_left;(focus (clear h;go_simp;(try with_reducible rfl)));(go_simp;refine k _ ?_;clear k K)))
    refine yh ?_;obtain⟨w3,hw3⟩:∃x,x=w2.alloc (.cells #[.int .u64 (v1:Nat),.int .u64 (v2:Nat),.string (bs v3)] 317):=⟨_,rfl⟩;have hb23:Below w2.heap.size w2 w3:=by rw [hw3];exact zi (N2 _ _) _
    have kv3:Blk w3 w2.heap.size #[.int .u64 (v1:Nat),.int .u64 (v2:Nat),.string (bs v3)] 317:=by rw [hw3];exact Blk.new rfl
    rw [← hw3];clear hw3;have hI3:=(zk.loc B K tv lp _ t).cut hI2 hb23;have km3:=km2.call hb23;have kf3:=kf2.call hb23;have hst3:zq t ow w (ow2.cut w2) w3:=hst2.trans (zq.wrap hb23 (zq.refl _ _ _));obtain⟨ow3,ho3⟩:∃o,ow2.cut w2=o:=⟨_,rfl⟩;rw [ho3] at hI3 hst3;clear ho3
    generalize w2.heap.size=vb at*
    have c3:=kf3.cell
    by_cases he:er=0
    ·subst he
     have hS2:=hS'.out;rw [if_pos rfl] at hS2;have hrm:zal (setNode S i m'):=⟨hg.notes,hg.last,by simpa [setNode] using hg.n0⟩;have hsd2:=λW ow b hW hb=>hsd.out (setNode S i m') 4 (by omega) (xF inst ballot (le8 v2++v3)) (by unfold xF;rw [N1,show(le4 (inst % 4294967296).toNat++le8 ballot).length=12 from(by rw [N1];rfl),N1,show(le8 v2).length=8 from rfl];omega) W ow b hW hrm.notes (by have:=hrm.last;omega) hb
     generalize xF inst ballot (le8 v2++v3)=dat at*
     replace hsd2:=hid hsd2;replace hS2:=hid hS2;replace hrm:=hid hrm;clear c3;go_wp2_with fail
     refine zd [O 0,O 1,O 2,O 3,O 4,O 5,O 6,O 8,O 9,E 7,E 10,E 11,E 12,E 13] (some 13) (λw'=>Blk w' w.heap.size #[.int .i64 1,.int .i64 k,.int .i64 s,.int .i64 d,.int .u32 0,.int .u32 0,.int .u32 0,.int .u32 0,.string (bs data)] 182/\Blk w' (w.heap.size+1) #[.int .i64 inst,.int .u64 (ballot:Nat)] 171/\Blk w' vb #[.int .u64 (v1:Nat),.int .u64 (v2:Nat),.string (bs v3)] 317/\True) (by kernel_rfl) (by kernel_rfl) ⟨kf3.drew,km3.drew,kv3.drew,trivial⟩ ?_
     (repeat (refine za (v:=?_) rfl rfl (λw' h=>?_) (λK k=>?_);rotate_left;obtain⟨f1,f2,f3,_⟩:=h;have e1:=f1.cell;have e2:=f2.cell;have e3:=f3.cell;go_simp;(try with_reducible rfl);go_simp;refine k _ ?_;clear k K))
     refine zc rfl (λJ hJ=>?_);go_wp2_with fail
     refine(hput.out _).mono ?_;rintro e w4⟨rfl,hb4⟩;have hb34:Below w3.heap.size w3 w4:=zg (zo (N2 _ _)) hb4;go_wp2;refine hJ.out _ _ (λ_=>⟨kf3.call hb34,km3.call hb34,kv3.call hb34,trivial⟩) ?_;clear hJ J;refine zc rfl (λJ hJ=>?_);go_wp2;refine hJ.out _ _ (λ_=>⟨(kf3.call hb34).alloc _,(km3.call hb34).alloc _,(kv3.call hb34).alloc _,trivial⟩) ?_;clear hJ J;refine zc rfl (λJ hJ=>?_);go_wp2_with fail
     refine(hlt.out _ _ (jM (n:=2) (size:=1) (cap:=2) (Blk.new rfl) rfl (N0 2))).mono ?_;rintro e w5⟨rfl,hb5⟩;have hb35:Below w3.heap.size w3 w5:=zg (zi hb34 _) hb5;go_wp2;refine hJ.out _ _ (λ_=>⟨kf3.call hb35,km3.call hb35,kv3.call hb35,trivial⟩) ?_;clear hJ J;refine zc rfl (λJ hJ=>?_);go_wp2;refine hJ.out _ _ (λ_=>⟨(kf3.call hb35).alloc _,(km3.call hb35).alloc _,(kv3.call hb35).alloc _,trivial⟩) ?_;clear hJ J;refine zc rfl (λJ hJ=>?_);go_wp2_with fail
     obtain⟨W6,hW6⟩:∃W6,W6=w5.alloc (.cells #[.int .i64 1,.int .i64 4,.int .i64 i,.int .i64 s,.int .u32 0,.int .u32 0,.int .u32 0,.int .u32 0,.string (bs dat)] 182):=⟨_,rfl⟩;have hb36:Below w3.heap.size w3 W6:=by rw [hW6];exact zi hb35 _
     have k6:Blk W6 w5.heap.size #[.int .i64 1,.int .i64 4,.int .i64 i,.int .i64 s,.int .u32 0,.int .u32 0,.int .u32 0,.int .u32 0,.string (bs dat)] 182:=by rw [hW6];exact Blk.new rfl
     rw [← hW6];refine(hsd2.out W6 (ow3.cut w3) _ ⟨tv,lp,(zk.loc B K tv lp _ t).cut hI3 hb36⟩ k6).mono ?_;rintro e w7⟨rfl,ow7,hs7,hW7⟩;go_wp2;refine hJ.out _ _ (λhh=>absurd rfl hh) ?_;clear hJ J;refine ze ?_;go_wp2;go_end0
     exact⟨rfl,ow7,hst3.trans (zq.wrap hb36 hs7),by rw [← hS2.out];exact hW7⟩
    ·have t2:(er==0)=false:=by simpa using he
     have hS2:=hS'.out;rw [if_neg he] at hS2;clear he;go_wp2;go_end0
     exact⟨rfl,ow3,hst3,by rw [← hS2];exact⟨tv,lp,hI3⟩⟩
   ·refine zbG rfl (λJ hJ=>?_)
    go_wp2;refine hJ.out _ _ ⟨jz (w:=w1) hc1 _,kB1.alloc _,km1.alloc _,trivial⟩ ?_;clear hJ J;obtain⟨wA,hwA⟩:∃x,x=(w1.alloc (.cells #[.int .u64 0,.int .u64 0,.string ⟨#[]⟩] 317)).drew:=⟨_,rfl⟩;refine qt [E 11,O 12,O 13,O 14,E 16,O 17] (by kernel_rfl) (λ_=>⟨jz (w:=w1) hc1 _,kB1.alloc _,km1.alloc _,trivial⟩) ?_;refine qK rfl (λJ hJ=>?_);go_wp2_with fail
    have hbA:Below W0.heap.size W0 (w1.alloc (.cells #[.int .u64 0,.int .u64 0,.string ⟨#[]⟩] 317)).drew:=zo (zi hb01 _);have hIA:=(zk.loc B K tv lp S t).cut hI0 hbA;have hNA:=(zx.loc _ _ _ _ _ _ _ _).cut hN hbA;have hsz01:=hb01.size;have ovA:(ow1.cut W0) w1.heap.size=[]:=Own.cut_new hsz01;rw [hoD] at hIA hNA ovA;obtain⟨wA,hwA⟩:∃x,x=(w1.alloc (.cells #[.int .u64 0,.int .u64 0,.string ⟨#[]⟩] 317)).drew:=⟨_,rfl⟩;have kvA:Blk wA w1.heap.size #[.int .u64 0,.int .u64 0,.string ⟨#[]⟩] 317:=by rw [hwA];exact(Blk.new rfl).drew
    rw [← hwA] at hbA hIA hNA⊢;clear hwA;refine(hprom.out _ _ hNA).mono ?_;rintro e w2⟨rfl,ow2,hs2,hN2⟩;have hI2:=hIA.setNode hi16 hnb.out hs2 hN2;have km2:=(km0.call hbA).kept (hs2.block (km0.call hbA).lt (by rw [omD];exact zj htc));have kf2:=(kf0.call hbA).kept (hs2.block (kf0.call hbA).lt (by rw [ofD];exact zj htc));have kv2:=kvA.kept (hs2.block kvA.lt (by rw [ovA];exact zj htc));have ov2:ow2 w1.heap.size=[]:=(hs2.agree _ kvA.lt).trans ovA;have hst2:zq t ow w ow2 w2:=zq.wrap hb0 (by rw [ho1];exact zq.wrap hbA (by rw [hoD];exact hs2.mono (Sub.child t i)));have cv2:=kv2.cell;have fv2:=kv2.frozen;have lv2:=kv2.lt;go_wp2;refine hJ.out _ _ ?_;clear hJ J c1 hc1
    (repeat (refine zX (v:=?_) rfl rfl (λw' h=>?_) (λK k=>?_);rotate_left;(focus (clear h;go_simp;(try with_reducible rfl)));(go_simp;refine k _ ?_;clear k K)))
    refine yB rfl (by simp) (λJ hJ=>?_);go_wp2;refine hJ.out _ _ trivial ?_;clear hJ J cv2 fv2 lv2
    (repeat (refine zX (v:=?_) rfl rfl (λw' h=>?_) (λK k=>?_);rotate_left;(focus (clear h;go_simp;(try with_reducible rfl)));(go_simp;refine k _ ?_;clear k K)))
    refine yh ?_;obtain⟨w3,hw3⟩:∃x,x=((w2.setCell ⟨w1.heap.size,0,none⟩ (.int .u64 (v1:Nat))).setCell ⟨w1.heap.size,1,none⟩ (.int .u64 (v2:Nat))).setCell ⟨w1.heap.size,2,none⟩ (.string (bs v3)):=⟨_,rfl⟩;have hM3:Mod (λk=>k=w1.heap.size) w2 w3:=by rw [hw3];exact(((Mod.refl (λk=>k=w1.heap.size) w2).thenSet (p:=⟨w1.heap.size,0,none⟩) rfl _).thenSet (p:=⟨w1.heap.size,1,none⟩) rfl _).thenSet (p:=⟨w1.heap.size,2,none⟩) rfl _
    have kv3:Blk w3 w1.heap.size #[.int .u64 (v1:Nat),.int .u64 (v2:Nat),.string (bs v3)] 317:=by rw [hw3];exact((kv2.set (o:=0) _).set (o:=1) _).set (o:=2) _
    rw [← hw3];clear hw3;have hI3:=(zk.loc B K tv lp _ t).modFree ht hI2 ov2 hM3;have h01:=hb0.size;have hz1:w.heap.size+1<w1.heap.size:=by have:=km0.lt;omega
    have km3:=km2.kept (hM3.block _ km2.lt (λe=>by omega));have kf3:=kf2.kept (hM3.block _ kf2.lt (λe=>by omega));have hst3:=hst2.modNew (by omega) hM3;obtain⟨ow3,ho3⟩:∃o,ow2=o:=⟨_,rfl⟩;rw [ho3] at hI3 hst3;clear ho3
    generalize w1.heap.size=vb at*
    have c3:=kf3.cell
    by_cases he:er=0
    ·subst he
     have hS2:=hS'.out;rw [if_pos rfl] at hS2;have hrm:zal (setNode S i m'):=⟨hg.notes,hg.last,by simpa [setNode] using hg.n0⟩;have hsd2:=λW ow b hW hb=>hsd.out (setNode S i m') 4 (by omega) (xF inst ballot (le8 v2++v3)) (by unfold xF;rw [N1,show(le4 (inst % 4294967296).toNat++le8 ballot).length=12 from(by rw [N1];rfl),N1,show(le8 v2).length=8 from rfl];omega) W ow b hW hrm.notes (by have:=hrm.last;omega) hb
     generalize xF inst ballot (le8 v2++v3)=dat at*
     replace hsd2:=hid hsd2;replace hS2:=hid hS2;replace hrm:=hid hrm;clear c3;go_wp2_with fail
     refine zd [O 0,O 1,O 2,O 3,O 4,O 5,O 6,O 8,O 9,E 7,E 10,E 11,E 12,E 13] (some 13) (λw'=>Blk w' w.heap.size #[.int .i64 1,.int .i64 k,.int .i64 s,.int .i64 d,.int .u32 0,.int .u32 0,.int .u32 0,.int .u32 0,.string (bs data)] 182/\Blk w' (w.heap.size+1) #[.int .i64 inst,.int .u64 (ballot:Nat)] 171/\Blk w' vb #[.int .u64 (v1:Nat),.int .u64 (v2:Nat),.string (bs v3)] 317/\True) (by kernel_rfl) (by kernel_rfl) ⟨kf3.drew,km3.drew,kv3.drew,trivial⟩ ?_
     (repeat (refine za (v:=?_) rfl rfl (λw' h=>?_) (λK k=>?_);rotate_left;obtain⟨f1,f2,f3,_⟩:=h;have e1:=f1.cell;have e2:=f2.cell;have e3:=f3.cell;go_simp;(try with_reducible rfl);go_simp;refine k _ ?_;clear k K))
     refine zc rfl (λJ hJ=>?_);go_wp2_with fail
     refine(hput.out _).mono ?_;rintro e w4⟨rfl,hb4⟩;have hb34:Below w3.heap.size w3 w4:=zg (zo (N2 _ _)) hb4;go_wp2;refine hJ.out _ _ (λ_=>⟨kf3.call hb34,km3.call hb34,kv3.call hb34,trivial⟩) ?_;clear hJ J;refine zc rfl (λJ hJ=>?_);go_wp2;refine hJ.out _ _ (λ_=>⟨(kf3.call hb34).alloc _,(km3.call hb34).alloc _,(kv3.call hb34).alloc _,trivial⟩) ?_;clear hJ J;refine zc rfl (λJ hJ=>?_);go_wp2_with fail
     refine(hlt.out _ _ (jM (n:=2) (size:=1) (cap:=2) (Blk.new rfl) rfl (N0 2))).mono ?_;rintro e w5⟨rfl,hb5⟩;have hb35:Below w3.heap.size w3 w5:=zg (zi hb34 _) hb5;go_wp2;refine hJ.out _ _ (λ_=>⟨kf3.call hb35,km3.call hb35,kv3.call hb35,trivial⟩) ?_;clear hJ J;refine zc rfl (λJ hJ=>?_);go_wp2;refine hJ.out _ _ (λ_=>⟨(kf3.call hb35).alloc _,(km3.call hb35).alloc _,(kv3.call hb35).alloc _,trivial⟩) ?_;clear hJ J;refine zc rfl (λJ hJ=>?_);go_wp2_with fail
     obtain⟨W6,hW6⟩:∃W6,W6=w5.alloc (.cells #[.int .i64 1,.int .i64 4,.int .i64 i,.int .i64 s,.int .u32 0,.int .u32 0,.int .u32 0,.int .u32 0,.string (bs dat)] 182):=⟨_,rfl⟩;have hb36:Below w3.heap.size w3 W6:=by rw [hW6];exact zi hb35 _
     have k6:Blk W6 w5.heap.size #[.int .i64 1,.int .i64 4,.int .i64 i,.int .i64 s,.int .u32 0,.int .u32 0,.int .u32 0,.int .u32 0,.string (bs dat)] 182:=by rw [hW6];exact Blk.new rfl
     rw [← hW6];refine(hsd2.out W6 (ow3.cut w3) _ ⟨tv,lp,(zk.loc B K tv lp _ t).cut hI3 hb36⟩ k6).mono ?_;rintro e w7⟨rfl,ow7,hs7,hW7⟩;go_wp2;refine hJ.out _ _ (λhh=>absurd rfl hh) ?_;clear hJ J;refine ze ?_;go_wp2;go_end0
     exact⟨rfl,ow7,hst3.trans (zq.wrap hb36 hs7),by rw [← hS2.out];exact hW7⟩
    ·have t2:(er==0)=false:=by simpa using he
     have hS2:=hS'.out;rw [if_neg he] at hS2;clear he;go_wp2;go_end0
     exact⟨rfl,ow3,hst3,by rw [← hS2];exact⟨tv,lp,hI3⟩⟩
end
section
def zjE(p:xn):Prop:=∀i x,zD i p.known=some x->x.length<=4000
theorem zfQ {p:xn}(h:zjE p)(i:Int)(x:List UInt8):zjE (zS p i x).1:=by
 unfold zS
 split
 ·exact h
 ·rename_i hx
  split
  ·split<;>exact h
  ·intro j y hj
   simp only at hj;rw [yz] at hj
   split at hj
   ·cases hj;omega
   ·exact h j y hj
theorem zdn {p:xn}(h:zjE p)(s:List UInt8):zjE (yx p s):=by
 unfold yx
 split
 ·exact h
 ·split
  ·exact zfQ h _ _
  ·split
   ·exact h
   ·exact h
theorem zkn(l:List (List UInt8)):zjE (RR l).2:=by
 unfold RR
 suffices H:∀(l:List (List UInt8)) (q:List zy×xn),zjE q.2->zjE (l.foldl jV q).2 from H l _ (λi x h=>by simp [x9,zD] at h)
 intro l
 induction l with
 |nil=>intro q h;exact h
 |cons r l ih=>
  intro q h;refine ih _ ?_;unfold jV
  split
  ·exact h
  ·split
   ·exact h
   ·exact zdn h _
theorem vj.klen {v:Int}{n:zp}(h:vj v n)(hd:n.down=false):zjE n.pax:=by
 obtain⟨⟨l,hi⟩, -⟩:=h.ok;rw [(hi.up hd).2.2];exact zkn l
theorem zbW(n:zp)(i:Int)(b:Nat):(zA n i b).2.1.2.2.length<=4000:=by
 have hv:∀v,(yj v b).1.2.2.length<=4000:=λv=>by
  unfold yj
  split
  ·simp
  ·rename_i h1
   split
   ·simp
   ·have h2:j7 v=true:=by
     by_cases hh:j7 v=true
     ·exact hh
     ·exact absurd (.inl (by simpa using hh)) h1
    unfold j7 at h2;simp only [Bool.and_eq_true,decide_eq_true_eq] at h2;exact h2.2
 have hp:(zC n.pax i b).2.1.2.2.length<=4000:=by
  unfold zC
  split
  ·simp
  ·split
   ·simp
   ·exact hv _
 unfold zA
 split
 ·simp
 ·split
  ·simp
  ·split
   ·simp
   ·exact hp
end
open Go Go.RowKit Go.Shelf Go.Extern.Stop Go.Stop Go.Extern
attribute [local go_sem] Oper.semAt_some zv zm
theorem jw:∀ {l:List jW} {i j:Nat} {s:jW},l[i]?=some s->j<5->(l.flatMap jY)[i*5+j]?=(jY s)[j]?
 | [],i,j,s,h,_=>by simp at h
 |x::l,0,j,s,h,hj=>by
  simp only [List.getElem?_cons_zero,Option.some.injEq] at h;subst h;rw [List.flatMap_cons,U8 (by simp only [jY,List.length_cons,List.length_nil];omega),Nat.zero_mul,Nat.zero_add]
 |x::l,i+1,j,s,h,hj=>by
  simp only [List.getElem?_cons_succ] at h;rw [List.flatMap_cons,U6 (by simp only [jY,List.length_cons,List.length_nil];omega)];have:=jw h hj;rw [← this]
  congr 1
  simp only [jY,List.length_cons,List.length_nil];omega
theorem zbX {v:Value}{j:Nat}{s s':jW}(hj:j<5)(he:(jY s).set j v=jY s'):∀ {l:List jW} {i:Nat},l[i]?=some s->(l.flatMap jY).set (i*5+j) v=(l.set i s').flatMap jY
 | [],i,h=>by simp at h
 |x::l,0,h=>by
  simp only [List.getElem?_cons_zero,Option.some.injEq] at h;subst h;rw [List.set_cons_zero,List.flatMap_cons,List.flatMap_cons,List.set_append_left _ _ (by simp only [jY,List.length_cons,List.length_nil];omega),Nat.zero_mul,Nat.zero_add,he]
 |x::l,i+1,h=>by
  simp only [List.getElem?_cons_succ] at h;have h5:(jY x).length=5:=rfl;rw [List.set_cons_succ,List.flatMap_cons,List.flatMap_cons,List.set_append_right _ _ (by rw [h5];omega),h5,show(i+1)*5+j - 5=i*5+j by omega,zbX hj he h]
theorem zk.setSeat {B:Nat}{K:WK}{tv:Value}{lp:Nat->Option Nat}{S:zf}{t:List Nat}{ow:Own}{W:World}(h:zk B K tv lp S t ow W){i j:Nat}{s s':jW}{v:Value}(hs:S.seats[i]?=some s)(hj:j<5)(he:(jY s).set j v=jY s'):
 zq (t++ [21]) ow W ow (W.setCell ⟨K.sb,i*5+j,none⟩ v)/\zk B K tv lp (setSeat S i s') t ow (W.setCell ⟨K.sb,i*5+j,none⟩ v):=by
 obtain⟨o,hl,hB⟩:=h.srow;have hst:zq (t++ [21]) ow W ow (W.setCell ⟨K.sb,i*5+j,none⟩ v):=zq.setCell W _ _ (by rw [o];exact Sub.rfl' _);refine⟨hst,h.setPart 21 hst rfl (λj' hj'=>?_) ⟨o,by simpa [Go.Proofs.YtofppfoioodblaaGreatDoor.setSeat] using hl,hB.setL (zbX hj he hs)⟩⟩;unfold vN Go.Proofs.YtofppfoioodblaaGreatDoor.setSeat;simp only [if_neg hj']
