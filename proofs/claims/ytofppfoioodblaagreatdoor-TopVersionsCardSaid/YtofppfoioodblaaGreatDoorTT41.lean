/- PARTS OF THE PROOF. -/
import Derived.Test.YtofppfoioodblaaGreatDoorTT32
import Derived.Test.YtofppfoioodblaaGreatDoorTT34
import Derived.Test.YtofppfoioodblaaGreatDoorTT40
set_option maxRecDepth 8000
set_option maxHeartbeats 4000000
open Go.Proofs.Tryz
namespace Go.Proofs.YtofppfoioodblaaGreatDoor
open Go Go.RowKit Go.Shelf Go.Extern.Stop Go.Stop Go.Extern
attribute [local go_sem] Oper.semAt_some zv zm
theorem zdo(B:Nat)(K:WK)(S:zf){v:Int}{k0 L:Nat}(hG:zu v k0 L S)(hL:L<=3000000000)(t:List Nat)(ht:t≠ [])(ow:Own)(a:Addr)(i s:Nat)(hi:i<S.nodes.length)(hs:s<S.nodes.length)(kd d:Int)(data:List UInt8)(hd:data.length<=4096)(hup:(zr S i).down=false)(w:World)(h:zL B K S t ow w)
 (he:jE w a) (hge:ow 2=[]):
 Calls prog 101 #[.pointer (some ⟨B,0,none⟩),.int .i64 i,Jj kd s d data] w (xZ B K (yA S i (qu kd s d data)) t ow w (.tuple #[])):=by
 have hrm:=hG.room hL;have hi16:i<16:=by have:=hG.n0;omega
 have hs16:s<16:=by have:=hG.n0;omega
 have hrd:=λW=>zhC kd s d data hd W
 unfold Jj at*;unfold zkl at hrd
 by_cases h12:data.length<12
 ·have hrc:yA S i (qu kd s d data)=S:=by unfold yA;rw [if_pos (show(qu kd s d data).data.length<12 from h12)]
  rw [hrc];rw [if_pos h12] at hrd;replace hrd:=hid hrd;clear hrc h12;obtain⟨tv,lp,hI⟩:=h
  go_enter func101,ntmps101
  go_wp2_with fail
  refine(hrd.out _).mono ?_;rintro e w1⟨rfl,hb1⟩;have kf1:=(show Blk (w.alloc (.cells #[.int .i64 1,.int .i64 kd,.int .i64 s,.int .i64 d,.int .u32 0,.int .u32 0,.int .u32 0,.int .u32 0,.string (bs data)] 182)) w.heap.size #[.int .i64 1,.int .i64 kd,.int .i64 s,.int .i64 d,.int .u32 0,.int .u32 0,.int .u32 0,.int .u32 0,.string (bs data)] 182 from Blk.new rfl).call hb1;have hb01:Below w.heap.size w w1:=zg (zi (N2 _ _) _) hb1;have hI1:=(zk.loc B K tv lp S t).below hI (zi hb01 (.cells #[.int .i64 0,.int .u64 0] 171));go_wp2;go_end0
  exact⟨rfl,ow,zq.of_below t ow (zi hb01 _),tv,lp,hI1⟩
 ·rw [if_neg h12] at hrd
  obtain⟨inst,hin⟩:∃x:Int,((zW data 0:Nat):Int)=x:=⟨_,rfl⟩;obtain⟨ballot,hba⟩:∃x,zW data 4+4294967296*zW data 8=x:=⟨_,rfl⟩;obtain⟨more,hmo⟩:∃x,data.drop 12=x:=⟨_,rfl⟩
  have hbl:ballot<18446744073709551616:=by
   have b1:=vW ((data.drop 4).take 4);have b2:=vW ((data.drop 8).take 4);unfold zW at hba;omega
  have hml:more.length<=4096:=by rw [← hmo,U3];omega
  have hrc:yA S i (qu kd s d data)=if kd=3∨kd=5 then yO S i (qu kd s d data) inst ballot more
   else if kd=4 then countPromise S i s inst ballot more
   else if kd=6 then countVote S i s inst ballot
   else if kd=7 then setNode (xm S i) i (ja (zr S i) inst more).1
   else S:=by
   unfold yA;rw [if_neg (show¬(qu kd s d data).data.length<12 from h12),← hin,← hba,← hmo];rfl
  rw [hin,hba,hmo] at hrd;unfold xE at hrd;obtain⟨tv,lp,hI⟩:=h;replace hrd:=hid hrd;replace hin:=hid hin;replace hba:=hid hba;replace hmo:=hid hmo
  by_cases k35:kd=3∨kd=5
  ·rw [if_pos k35] at hrc
   rw [hrc];have han:=λW ow hW=>zfP B K S t ht ow i s hi hs16 kd d data inst ballot hbl more (by omega) W hW hrm (hG.node hi).2.ok.2 (λx hx=>by have:=(hG.node hi).2.klen hup _ _ hx;omega) (by have:=zbW (zr S i) inst ballot;omega)
   unfold Jj xE at han;replace han:=hid han;replace hrc:=hid hrc
   rcases k35 with hk|hk
   ·have q3:(kd==3)=true:=by simp [hk]
    clear hk
    go_enter func101,ntmps101
    go_wp2_with fail
    refine(hrd.out _).mono ?_;rintro e w1⟨rfl,hb1⟩;have kf1:=(show Blk (w.alloc (.cells #[.int .i64 1,.int .i64 kd,.int .i64 s,.int .i64 d,.int .u32 0,.int .u32 0,.int .u32 0,.int .u32 0,.string (bs data)] 182)) w.heap.size #[.int .i64 1,.int .i64 kd,.int .i64 s,.int .i64 d,.int .u32 0,.int .u32 0,.int .u32 0,.int .u32 0,.string (bs data)] 182 from Blk.new rfl).call hb1;have hb01:Below w.heap.size w w1:=zg (zi (N2 _ _) _) hb1;obtain⟨w2,hw2⟩:∃x,x=w1.alloc (.cells #[.int .i64 inst,.int .u64 (ballot:Nat)] 171):=⟨_,rfl⟩;have hb02:Below w.heap.size w w2:=by rw [hw2];exact zi hb01 _
    have kf2:Blk w2 w.heap.size #[.int .i64 1,.int .i64 kd,.int .i64 s,.int .i64 d,.int .u32 0,.int .u32 0,.int .u32 0,.int .u32 0,.string (bs data)] 182:=by rw [hw2];exact kf1.alloc _
    have km2:Blk w2 w1.heap.size #[.int .i64 inst,.int .u64 (ballot:Nat)] 171:=by rw [hw2];exact Blk.new rfl
    have c1:=kf1.cell;have l1:=kf1.lt;have c2:=(kf1.alloc (.cells #[.int .i64 inst,.int .u64 (ballot:Nat)] 171)).cell;have hI2:=(zk.loc B K tv lp S t).cut hI hb02;replace hw2:=hid hw2;go_wp2_with fail
    rw [← hw2.out];refine(han.out _ _ ⟨tv,lp,hI2⟩).mono ?_;rintro e w3⟨rfl,ow3,hs3,hW3⟩;go_wp2;go_end0
    exact⟨rfl,ow3,zq.wrap hb02 hs3,hW3⟩
   ·have q3:(kd==3)=false:=by simp [hk]
    have q5:(kd==5)=true:=by simp [hk]
    clear hk
    go_enter func101,ntmps101
    go_wp2_with fail
    refine(hrd.out _).mono ?_;rintro e w1⟨rfl,hb1⟩;have kf1:=(show Blk (w.alloc (.cells #[.int .i64 1,.int .i64 kd,.int .i64 s,.int .i64 d,.int .u32 0,.int .u32 0,.int .u32 0,.int .u32 0,.string (bs data)] 182)) w.heap.size #[.int .i64 1,.int .i64 kd,.int .i64 s,.int .i64 d,.int .u32 0,.int .u32 0,.int .u32 0,.int .u32 0,.string (bs data)] 182 from Blk.new rfl).call hb1;have hb01:Below w.heap.size w w1:=zg (zi (N2 _ _) _) hb1;obtain⟨w2,hw2⟩:∃x,x=w1.alloc (.cells #[.int .i64 inst,.int .u64 (ballot:Nat)] 171):=⟨_,rfl⟩;have hb02:Below w.heap.size w w2:=by rw [hw2];exact zi hb01 _
    have kf2:Blk w2 w.heap.size #[.int .i64 1,.int .i64 kd,.int .i64 s,.int .i64 d,.int .u32 0,.int .u32 0,.int .u32 0,.int .u32 0,.string (bs data)] 182:=by rw [hw2];exact kf1.alloc _
    have km2:Blk w2 w1.heap.size #[.int .i64 inst,.int .u64 (ballot:Nat)] 171:=by rw [hw2];exact Blk.new rfl
    have c1:=kf1.cell;have l1:=kf1.lt;have c2:=(kf1.alloc (.cells #[.int .i64 inst,.int .u64 (ballot:Nat)] 171)).cell;have hI2:=(zk.loc B K tv lp S t).cut hI hb02;replace hw2:=hid hw2;go_wp2_with fail
    rw [← hw2.out];refine(han.out _ _ ⟨tv,lp,hI2⟩).mono ?_;rintro e w3⟨rfl,ow3,hs3,hW3⟩;go_wp2;go_end0
    exact⟨rfl,ow3,zq.wrap hb02 hs3,hW3⟩
  ·rw [if_neg k35] at hrc
   have q3:(kd==3)=false:=by simp;omega
   have q5:(kd==5)=false:=by simp;omega
   clear k35
   by_cases k4:kd=4
   ·rw [if_pos k4] at hrc
    rw [hrc];have q4:(kd==4)=true:=by simp [k4]
    have han:=λW ow hW=>Vc B K S t ht ow i s hi16 hs16 inst ballot more (by omega) W hW hrm (λl hl=>by have h1:=hG.leads i l hl;have h2:=List.count_le_length (a:=true) (l:=l.promised);have h3:=h1.pc;have h4:=h1.pn;omega)
    unfold xE at han;replace han:=hid han;replace hrc:=hid hrc;clear k4
    go_enter func101,ntmps101
    go_wp2_with fail
    refine(hrd.out _).mono ?_;rintro e w1⟨rfl,hb1⟩;have kf1:=(show Blk (w.alloc (.cells #[.int .i64 1,.int .i64 kd,.int .i64 s,.int .i64 d,.int .u32 0,.int .u32 0,.int .u32 0,.int .u32 0,.string (bs data)] 182)) w.heap.size #[.int .i64 1,.int .i64 kd,.int .i64 s,.int .i64 d,.int .u32 0,.int .u32 0,.int .u32 0,.int .u32 0,.string (bs data)] 182 from Blk.new rfl).call hb1;have hb01:Below w.heap.size w w1:=zg (zi (N2 _ _) _) hb1;obtain⟨w2,hw2⟩:∃x,x=w1.alloc (.cells #[.int .i64 inst,.int .u64 (ballot:Nat)] 171):=⟨_,rfl⟩;have hb02:Below w.heap.size w w2:=by rw [hw2];exact zi hb01 _
    have kf2:Blk w2 w.heap.size #[.int .i64 1,.int .i64 kd,.int .i64 s,.int .i64 d,.int .u32 0,.int .u32 0,.int .u32 0,.int .u32 0,.string (bs data)] 182:=by rw [hw2];exact kf1.alloc _
    have km2:Blk w2 w1.heap.size #[.int .i64 inst,.int .u64 (ballot:Nat)] 171:=by rw [hw2];exact Blk.new rfl
    have c1:=kf1.cell;have l1:=kf1.lt;have c2:=(kf1.alloc (.cells #[.int .i64 inst,.int .u64 (ballot:Nat)] 171)).cell;have hI2:=(zk.loc B K tv lp S t).cut hI hb02;replace hw2:=hid hw2;go_wp2_with fail
    rw [← hw2.out];refine(han.out _ _ ⟨tv,lp,hI2⟩).mono ?_;rintro e w3⟨rfl,ow3,hs3,hW3⟩;go_wp2;go_end0
    exact⟨rfl,ow3,zq.wrap hb02 hs3,hW3⟩
   ·rw [if_neg k4] at hrc
    have q4:(kd==4)=false:=by simpa using k4
    clear k4
    by_cases k6:kd=6
    ·rw [if_pos k6] at hrc
     rw [hrc];have q6:(kd==6)=true:=by simp [k6]
     have han:=λW ow hW=>zap B K S t ht ow i s hi16 hs16 inst ballot W hW hrm (λl hl=>by have h1:=hG.leads i l hl;have h2:=List.count_le_length (a:=true) (l:=l.voted);have h3:=h1.vc;have h4:=h1.vn;have h5:=h1.value;exact⟨by omega,by omega⟩)
     unfold xE at han;replace han:=hid han;replace hrc:=hid hrc;clear k6
     go_enter func101,ntmps101
     go_wp2_with fail
     refine(hrd.out _).mono ?_;rintro e w1⟨rfl,hb1⟩;have kf1:=(show Blk (w.alloc (.cells #[.int .i64 1,.int .i64 kd,.int .i64 s,.int .i64 d,.int .u32 0,.int .u32 0,.int .u32 0,.int .u32 0,.string (bs data)] 182)) w.heap.size #[.int .i64 1,.int .i64 kd,.int .i64 s,.int .i64 d,.int .u32 0,.int .u32 0,.int .u32 0,.int .u32 0,.string (bs data)] 182 from Blk.new rfl).call hb1;have hb01:Below w.heap.size w w1:=zg (zi (N2 _ _) _) hb1;obtain⟨w2,hw2⟩:∃x,x=w1.alloc (.cells #[.int .i64 inst,.int .u64 (ballot:Nat)] 171):=⟨_,rfl⟩;have hb02:Below w.heap.size w w2:=by rw [hw2];exact zi hb01 _
     have kf2:Blk w2 w.heap.size #[.int .i64 1,.int .i64 kd,.int .i64 s,.int .i64 d,.int .u32 0,.int .u32 0,.int .u32 0,.int .u32 0,.string (bs data)] 182:=by rw [hw2];exact kf1.alloc _
     have km2:Blk w2 w1.heap.size #[.int .i64 inst,.int .u64 (ballot:Nat)] 171:=by rw [hw2];exact Blk.new rfl
     have c1:=kf1.cell;have l1:=kf1.lt;have c2:=(kf1.alloc (.cells #[.int .i64 inst,.int .u64 (ballot:Nat)] 171)).cell;have hI2:=(zk.loc B K tv lp S t).cut hI hb02;replace hw2:=hid hw2;go_wp2_with fail
     rw [← hw2.out];refine(han.out _ _ ⟨tv,lp,hI2⟩).mono ?_;rintro e w3⟨rfl,ow3,hs3,hW3⟩;go_wp2;go_end0
     exact⟨rfl,ow3,zq.wrap hb02 hs3,hW3⟩
    ·rw [if_neg k6] at hrc
     have q6:(kd==6)=false:=by simpa using k6
     clear k6
     by_cases k7:kd=7
     ·rw [if_pos k7] at hrc
      have q7:(kd==7)=true:=by simp [k7]
      clear k7;have hsc:=(hI.srow).2.2;have hss:=hG.seat hi;obtain⟨S1,hS1⟩:∃S1,xm S i=S1:=⟨_,rfl⟩;rw [hS1] at hrc;rw [hrc];replace hrc:=hid hrc
      go_enter func101,ntmps101
      go_wp2_with fail
      refine(hrd.out _).mono ?_;rintro e w1⟨rfl,hb1⟩;have kf1:=(show Blk (w.alloc (.cells #[.int .i64 1,.int .i64 kd,.int .i64 s,.int .i64 d,.int .u32 0,.int .u32 0,.int .u32 0,.int .u32 0,.string (bs data)] 182)) w.heap.size #[.int .i64 1,.int .i64 kd,.int .i64 s,.int .i64 d,.int .u32 0,.int .u32 0,.int .u32 0,.int .u32 0,.string (bs data)] 182 from Blk.new rfl).call hb1;have hb01:Below w.heap.size w w1:=zg (zi (N2 _ _) _) hb1;obtain⟨w2,hw2⟩:∃x,x=w1.alloc (.cells #[.int .i64 inst,.int .u64 (ballot:Nat)] 171):=⟨_,rfl⟩;have hb02:Below w.heap.size w w2:=by rw [hw2];exact zi hb01 _
      have kf2:Blk w2 w.heap.size #[.int .i64 1,.int .i64 kd,.int .i64 s,.int .i64 d,.int .u32 0,.int .u32 0,.int .u32 0,.int .u32 0,.string (bs data)] 182:=by rw [hw2];exact kf1.alloc _
      have km2:Blk w2 w1.heap.size #[.int .i64 inst,.int .u64 (ballot:Nat)] 171:=by rw [hw2];exact Blk.new rfl
      have c1:=kf1.cell;have l1:=kf1.lt;have c2:=(kf1.alloc (.cells #[.int .i64 inst,.int .u64 (ballot:Nat)] 171)).cell;have hI2:=(zk.loc B K tv lp S t).cut hI hb02;replace hw2:=hid hw2;have hB2:=hI2.blk;obtain⟨os2,ol2,hs2⟩:=hI2.srow;have e2:=hs2.cellL (jw hss (j:=3) (by decide));have f2:=hs2.frozen;have ls2:=hs2.lt;have g2:=hB2.cell;rw [hw2.out] at e2 f2 ls2 g2;have y0:(0:Int)<=(i:Int):=by omega
      have y1:(i:Int)<(S.nodes.length:Int):=by omega
      go_wp2_with fail
      obtain⟨hst3,hI3⟩:=hI2.setSeat (v:=.bool true) (s':={jg S i with stale:=true}) hss (j:=3) (by decide) rfl;rw [show setSeat S i {jg S i with stale:=true} =S1 from hS1] at hI3;rw [← hw2.out];have om2:(ow.cut w) w1.heap.size=[]:=Own.cut_new hb01.size;have oe2:(ow.cut w) 2=[]:=(Own.cut_old he.lt).trans hge;have hle:2<w2.heap.size:=Nat.lt_of_lt_of_le he.lt hb02.size;have he3:jE (w2.setCell ⟨K.sb,i*5+3,none⟩ (.bool true)).drew a:=(hst3.cell (p:=⟨2,0,none⟩) hle (by show¬Sub _ ((ow.cut w) 2);rw [oe2];exact zj (by simp))).trans (he.below hb02 he.lt);have km3:=km2.kept (hst3.block km2.lt (by rw [om2];exact zj (by simp)));obtain⟨w3,hw3⟩:∃x,x=w2.setCell ⟨K.sb,i*5+3,none⟩ (.bool true):=⟨_,rfl⟩;rw [← hw3] at hst3 hI3 he3 km3⊢;clear hw3 e2 f2 ls2 g2 hB2;have hn1:S1.nodes=S.nodes:=by rw [← hS1];rfl
      obtain⟨b,hnb,px,sb,lb,pb,av,hN⟩:=hI3.node hi16 (m:=zr S i) (by rw [hn1];exact(hG.node hi).1);have hc3:=hI3.nodeCell hnb;have kB3:=hI3.blk;have hNG:=(hG.node hi).2;have hbd:=hNG.ok.bounds;have hlr:=zfv a b (zr S i) (t++ [i]) (by simp) (ow.cut w) inst more (by omega) w3.drew ((zx.loc _ _ _ _ _ _ _ _).below hN (zo (N2 _ _))) hNG.ok.2 he3 oe2 hbd.2.2.2 hbd.2.2.1 (by omega) hNG.known;rw [hn1] at kB3
      generalize S.nodes.length=N at*
      replace hlr:=hid hlr;refine zd [O 0,O 1,O 2,O 3,O 4,O 5,O 6,O 7,O 8,O 9,E 10] (some 10) (λw'=>w'.cell? ⟨K.nb,i,none⟩=some (.pointer (some ⟨b,0,none⟩))/\Blk w' B #[.slice (some ⟨K.nb,0,none⟩) N K.nc,.slice (some ⟨K.sb,0,none⟩) N N,.map (some K.lm),.pointer (some ⟨K.fb,0,none⟩),.map (some K.hm),.map (some K.dm),tv] 65/\Blk w' w1.heap.size #[.int .i64 inst,.int .u64 (ballot:Nat)] 171/\True) (by kernel_rfl) (by kernel_rfl) ⟨hc3,kB3.drew,km3.drew,trivial⟩ ?_
      (repeat (refine za (v:=?_) rfl rfl (λw' h=>?_) (λK k=>?_);rotate_left;obtain⟨f1,f2,f3,_⟩:=h;have e2:=f2.cell;have e3:=f3.cell;go_simp;(try with_reducible rfl);go_simp;refine k _ ?_;clear k K))
      refine zc rfl (λJ hJ=>?_);go_wp2_with fail
      refine hlr.out.mono ?_;rintro e w4⟨v4,ow4,rfl,hs4,hN4, -, -⟩;go_wp2;refine hJ.out _ _ (λhh=>absurd rfl hh) ?_;clear hJ J;refine ze ?_;have hI4:=((zk.loc B K tv lp S1 t).below hI3 (zo (N2 _ _))).setNode hi16 hnb hs4 hN4;go_wp2;go_end0
      exact⟨rfl,ow4,zq.wrap hb02 ((hst3.mono (Sub.child t 21)).trans ((zq.of_below t _ (zo (N2 _ _))).trans (hs4.mono (Sub.child t i)))),tv,lp,hI4⟩
     ·rw [if_neg k7] at hrc
      rw [hrc];have q7:(kd==7)=false:=by simpa using k7
      replace hrc:=hid hrc;clear k7
      go_enter func101,ntmps101
      go_wp2_with fail
      refine(hrd.out _).mono ?_;rintro e w1⟨rfl,hb1⟩;have kf1:=(show Blk (w.alloc (.cells #[.int .i64 1,.int .i64 kd,.int .i64 s,.int .i64 d,.int .u32 0,.int .u32 0,.int .u32 0,.int .u32 0,.string (bs data)] 182)) w.heap.size #[.int .i64 1,.int .i64 kd,.int .i64 s,.int .i64 d,.int .u32 0,.int .u32 0,.int .u32 0,.int .u32 0,.string (bs data)] 182 from Blk.new rfl).call hb1;have hb01:Below w.heap.size w w1:=zg (zi (N2 _ _) _) hb1;obtain⟨w2,hw2⟩:∃x,x=w1.alloc (.cells #[.int .i64 inst,.int .u64 (ballot:Nat)] 171):=⟨_,rfl⟩;have hb02:Below w.heap.size w w2:=by rw [hw2];exact zi hb01 _
      have kf2:Blk w2 w.heap.size #[.int .i64 1,.int .i64 kd,.int .i64 s,.int .i64 d,.int .u32 0,.int .u32 0,.int .u32 0,.int .u32 0,.string (bs data)] 182:=by rw [hw2];exact kf1.alloc _
      have km2:Blk w2 w1.heap.size #[.int .i64 inst,.int .u64 (ballot:Nat)] 171:=by rw [hw2];exact Blk.new rfl
      have c1:=kf1.cell;have l1:=kf1.lt;have c2:=(kf1.alloc (.cells #[.int .i64 inst,.int .u64 (ballot:Nat)] 171)).cell;have hI2:=(zk.loc B K tv lp S t).cut hI hb02;replace hw2:=hid hw2;go_wp2;go_end0
      rw [← hw2.out];exact⟨rfl,_,zq.wrap hb02 (zq.refl _ _ _),tv,lp,hI2⟩
theorem zko(n:Nat)(b:Bool)(x:Int)(w:World):(Instr.checkKey b (n+1) 35 (.int .u32 x)).run prog w=.ok () w:=by
 simp [Instr.checkKey,go_sem]
theorem zkp:x4 prog 35 zge where
 eq:=λk k' w=>by
  have h:(Op.equal 35 (zge k) (zge k')).run prog w=(Op.equalIn 10000 35 (.int .u32 k) (.int .u32 k')).run prog w:=rfl;rw [h];have h2:((k:Int)=(k':Int))=(k=k'):=by simp only [eq_iff_iff];omega
  simp [go_sem]
  by_cases h1:k=k'
  ·simp [h1]
  ·simp [h1,h2]
 chk:=λb k w=>zko 9999 b k w
 bits:=λk=>by simp [zge,Instr.sameBits]
 now:=⟨_,Tryz.underlying35,λk k'=>by
  by_cases h:k=k'
  ·right;subst h;simp [zge,Instr.sameNow]
  ·right
   have h2:((k:Int)=(k':Int))=False:=by simp only [eq_iff_iff,iff_false];omega
   simp [zge,Instr.sameNow,h,h2]⟩
theorem zk.setHurt {B:Nat}{K:WK}{tv:Value}{lp:Nat->Option Nat}{S:zf}{t:List Nat}{ow:Own}{W:World}(h:zk B K tv lp S t ow W){o:Obj}{hu:List (Nat×Unit)}(hM:jc (W.putObj K.hm o) K.hm zge (hu.map λq=>(q.1,ZH))):
 zq (t++ [18]) ow W ow (W.putObj K.hm o)/\zk B K tv lp {S with hurt:=hu} t ow (W.putObj K.hm o):=by
 obtain⟨ho, -⟩:=h.hurtM;have hst:zq (t++ [18]) ow W ow (W.putObj K.hm o):=zq.putObj W K.hm o (by rw [ho];exact Sub.rfl' _);refine⟨hst,h.setPart 18 hst rfl (λj' hj'=>?_) ⟨ho,hM⟩⟩;unfold vN;simp only [if_neg hj']
theorem zjg {S:zf}{p:Int}{x:zfy}(h0:0<=p)(hx:S.notes[p.toNat]?=some x):zkW S p=(x.1,true)/\zah S.notes p=(S.notes.eraseIdx p.toNat,x,0):=by
 unfold zkW zah;rw [if_neg (by omega),if_neg (by omega),hx];exact⟨rfl,rfl⟩
theorem qL {px sb lb pb:Nat}{av:Value}{n:zp}{B:Nat}(w:World)(hB:Blk w B (zz px sb lb pb av n) 98):Calls prog 66 #[.pointer (some ⟨B,0,none⟩)] w λe w'=>e=.returned (.bool n.down)/\w'=w:=by
 have hr:=vX w hB;unfold Jw at hr;replace hr:=hid hr
 cases hd:n.down
 ·rw [hd] at hr
  replace hd:=hid hd;replace hB:=hid hB
  go_enter func66,ntmps66
  go_wp2_with fail
  refine hr.out.mono ?_;rintro e w1⟨rfl,rfl⟩;go_wp2;go_ret
  exact⟨rfl,rfl⟩
 ·rw [hd] at hr
  replace hd:=hid hd;replace hB:=hid hB
  go_enter func66,ntmps66
  go_wp2_with fail
  refine hr.out.mono ?_;rintro e w1⟨rfl,rfl⟩;go_wp2;go_ret
  exact⟨rfl,rfl⟩
theorem zhJ(B:Nat)(K:WK)(S:zf){v:Int}{k0 L:Nat}(hG:zu v k0 L S)(hL:L<=3000000000)(t:List Nat)(ht:t≠ [])(ow:Own)(a:Addr)(p:Int)(w:World)(h:zL B K S t ow w)
 (he:jE w a) (hge:ow 2=[]):
 Calls prog 50 #[.pointer (some ⟨B,0,none⟩),.int .i64 p] w (xZ B K (xw S p).1 t ow w (.int .i64 (xw S p).2)):=by
 obtain⟨tv,lp,hI⟩:=h;have htk:=λW ow hW=>zfC K.fb S.last S.notes (t++ [16]) ow p W hW hG.notesN
 have c0:=hI.blk.cell
 by_cases hp:0<=p/\p<S.notes.length
 ·obtain⟨⟨id,dst,str⟩,hx⟩:∃x,S.notes[p.toNat]?=some x:=⟨_,N3 (by omega)⟩
  obtain⟨-,e2⟩:=zjg hp.1 hx;have hok:=hG.notes _ (List.mem_of_getElem? hx);have hG1:=hG.erase hx;obtain⟨dn,rfl⟩:∃n:Nat,dst=n:=⟨dst.toNat,by have:=hok.dst.1;simp only at this;omega⟩;have hdn:dn<S.nodes.length:=by have:=hok.dst.2;simp only at this;omega
  have htw:xw S p=if(zfx str).2=0/\(zr S dn).down=false then(yA {S with notes:=S.notes.eraseIdx p.toNat,hurt:=del id S.hurt} dn (zfx str).1,0)else({S with notes:=S.notes.eraseIdx p.toNat,hurt:=del id S.hurt},0):=by
   unfold xw;rw [if_neg (by omega),hx];rfl
  obtain⟨S1,hS1⟩:∃S1,({S with notes:=S.notes.eraseIdx p.toNat,hurt:=del id S.hurt} :zf)=S1:=⟨_,rfl⟩;rw [e2] at htk;unfold zhu at htk;simp only at htk hG1;rw [hS1] at htw hG1;have hn1:S1.nodes=S.nodes:=by rw [← hS1]
  obtain⟨R,hR⟩:∃R,xw S p=R:=⟨_,rfl⟩;rw [hR] at htw⊢;clear hR;replace htw:=hid htw;replace htk:=hid htk;clear hp
  go_enter func50,ntmps50
  go_wp2_with fail
  refine(htk.out _ _ hI.flight).mono ?_;rintro e w1⟨rfl,ow1,hs1,hF1⟩;have hI1:=hI.setFlight hs1 hF1;clear c0
  try simp only at hI1
  go_wp2_with fail
  obtain⟨W2,hW2⟩:∃W2,W2=w1.alloc (.cells #[.int .u32 (id:Nat),.int .i64 (dn:Nat),.string (bs str)] 178):=⟨_,rfl⟩;have hb12:Below w1.heap.size w1 W2:=by rw [hW2];exact zi (N2 _ _) _
  have kn2:Blk W2 w1.heap.size #[.int .u32 (id:Nat),.int .i64 (dn:Nat),.string (bs str)] 178:=by rw [hW2];exact Blk.new rfl
  have hI2:=(zk.loc B K tv lp _ t).cut hI1 hb12;have on2:(ow1.cut w1) w1.heap.size=[]:=Own.cut_new (N0 _);have hst2:zq t ow w (ow1.cut w1) W2:=(hs1.mono (Sub.child t 16)).trans (zq.wrap hb12 (zq.refl _ _ _));have oe2:(ow1.cut w1) 2=[]:=(Own.cut_old (Nat.lt_of_lt_of_le he.lt hs1.size)).trans ((hs1.agree _ he.lt).trans hge);have he2:jE W2 a:=(hst2.cell (p:=⟨2,0,none⟩) he.lt (by show¬Sub _ (ow 2);rw [hge];exact zj ht)).trans he;rw [← hW2];clear hW2 hb12 hI1
  generalize ow1.cut w1=ow2 at*
  generalize w1.heap.size=nb at*
  have kB2:=hI2.blk;obtain⟨hho,hhm⟩:=hI2.hurtM;obtain⟨o,hdel,hM3⟩:=(hhm.kept (w':=W2.drew) rfl).delete zkp Tryz.underlying61 #[61,35] 0 rfl id;have hM3:jc (W2.drew.putObj K.hm o) K.hm zge ((del id S.hurt).map λq=>(q.1,ZH)):=by have h3:=QL (λ_:Unit=>ZH) id S.hurt;rw [← h3];exact hM3
  have hID:=(zk.loc B K tv lp _ t).below hI2 (zo (N2 _ _));obtain⟨hs3,hI3⟩:=hID.setHurt hM3;unfold zge at hdel
  try simp only at kB2 hI3
  rw [show({nodes:=S.nodes,seats:=S.seats,leads:=S.leads,last:=S.last,notes:=S.notes.eraseIdx p.toNat,hurt:=del id S.hurt,trace:=S.trace} :zf)=S1 from hS1] at hI3;have hst3:=hst2.trans ((zq.of_below t _ (zo (N2 _ _))).trans (hs3.mono (Sub.child t 18)));have kn3:=kn2.drew.kept (hs3.block kn2.drew.lt (by rw [on2];exact zj (by simp)));have he3:jE (W2.drew.putObj K.hm o) a:=(hs3.cell (p:=⟨2,0,none⟩) he2.lt (by show¬Sub _ (ow2 2);rw [oe2];exact zj (by simp))).trans he2;obtain⟨N,hN⟩:∃N,S.nodes.length=N:=⟨_,rfl⟩;simp only [hN] at kB2;refine zd [O 0,O 1,O 2,O 3,O 4,O 5,E 6] (some 6) (λw'=>Blk w' B #[.slice (some ⟨K.nb,0,none⟩) N K.nc,.slice (some ⟨K.sb,0,none⟩) N N,.map (some K.lm),.pointer (some ⟨K.fb,0,none⟩),.map (some K.hm),.map (some K.dm),tv] 65/\Blk w' nb #[.int .u32 (id:Nat),.int .i64 (dn:Nat),.string (bs str)] 178/\True) (by kernel_rfl) (by kernel_rfl) ⟨kB2.drew,kn2.drew,trivial⟩ ?_
  (repeat (refine za (v:=?_) rfl rfl (λw' h=>?_) (λK k=>?_);rotate_left;obtain⟨f1,f2,f3,_⟩:=h;(try have e1:=f1.cell);(try have e2:=f2.cell);(try have e3:=f3.cell);go_simp;(try with_reducible rfl);go_simp;refine k _ ?_;clear k K))
  refine zc rfl (λJ hJ=>?_);refine vt rfl _ _ _ _ rfl rfl rfl hdel ?_;unfold wpList;refine hJ.out _ _ (λhh=>absurd rfl hh) ?_;clear hJ J;refine ze ?_;have hst3:zq t ow w ow2 (W2.drew.putObj K.hm o):=hst3;obtain⟨w3,hw3⟩:∃x,x=W2.drew.putObj K.hm o:=⟨_,rfl⟩;rw [← hw3] at hst3 hI3 kn3 he3⊢;clear hw3 hs3 hM3 hdel hhm hho hID kB2 kn2 hI2 he2;have c3:=kn3.cell;have hform:xA str=none/\str.length<=5000∨qg S.nodes.length (dn:Int) str:=hok.form
  rcases hform with⟨hop,hln⟩|hlet
  ·have hdb:=λW=>zfK str (by omega) hop W
   have hdf:(zfx str).2=21:=by unfold zfx;rw [hop]
   have htw2:=htw.out;rw [hdf,if_neg (by simp)] at htw2;have q1:R.1=S1:=by rw [htw2]
   have q2:R.2=0:=by rw [htw2]
   clear htw2;replace q1:=hid q1;replace q2:=hid q2;unfold zli at hdb;replace hdb:=hid hdb;go_wp2_with fail
   refine(hdb.out _).mono ?_;rintro e w4⟨rfl,hb4⟩;go_wp2_with fail
   obtain⟨W5,hW5⟩:∃x,x=w4.alloc (.cells #[.int .i64 0,.int .i64 0,.int .i64 0,.int .i64 0,.int .u32 0,.int .u32 0,.int .u32 0,.int .u32 0,.string ⟨#[]⟩] 182):=⟨_,rfl⟩;have hb35:Below w3.heap.size w3 W5:=by rw [hW5];exact zi hb4 _
   rw [← hW5];clear hW5;refine zd [O 0,O 1,O 2,O 3,O 4,O 5,O 6,O 7,O 8,O 9,O 10,E 11,O 12,O 13] none (λ_=>True) (by kernel_rfl) (by kernel_rfl) trivial ?_
   (repeat (refine za (v:=?_) rfl rfl (λw' h=>?_) (λK k=>?_);rotate_left;obtain⟨f1,f2,f3,_⟩:=h;(try have e1:=f1.cell);(try have e2:=f2.cell);(try have e3:=f3.cell);go_simp;(try with_reducible rfl);go_simp;refine k _ ?_;clear k K))
   (repeat (refine je rfl rfl (λK hK=>?_);go_simp;refine hK _ ?_;clear hK K))
   refine zc rfl (λJ hJ=>?_);go_wp2;refine hJ.out _ _ (λ_=>trivial) ?_;clear hJ J
   (repeat (refine je rfl rfl (λK hK=>?_);go_simp;refine hK _ ?_;clear hK K))
   (repeat (refine za (v:=?_) rfl rfl (λw' h=>?_) (λK k=>?_);rotate_left;obtain⟨f1,f2,f3,_⟩:=h;(try have e1:=f1.cell);(try have e2:=f2.cell);(try have e3:=f3.cell);go_simp;(try with_reducible rfl);go_simp;refine k _ ?_;clear k K))
   refine ze ?_;go_wp2;go_ret
   exact⟨by rw [q2.out];rfl,_,hst3.trans (zq.wrap (zo hb35) (zq.refl _ _ _)),by rw [q1.out];exact⟨tv,lp,(zk.loc B K tv lp _ t).cut hI3 (zo hb35)⟩⟩
  ·obtain⟨hln, -,kind,src,data,hk7,hsr,hdl,hdf,hse⟩:=hlet.dec hG.n0.2 ⟨by omega,by omega⟩
   have hdb:=λW=>zfJ kind src dn (by omega) (by have:=hG.n0;omega) (by have:=hG.n0;omega) data hdl W
   rw [← hse] at hdb;unfold Jj at hdb;replace hse:=hid hse;replace hdf:=hid hdf;replace hdb:=hid hdb;go_wp2_with fail
   refine(hdb.out _).mono ?_;rintro e w4⟨rfl,hb4⟩;go_wp2_with fail
   obtain⟨W5,hW5⟩:∃x,x=w4.alloc (.cells #[.int .i64 1,.int .i64 kind,.int .i64 src,.int .i64 dn,.int .u32 0,.int .u32 0,.int .u32 0,.int .u32 0,.string (bs data)] 182):=⟨_,rfl⟩;have hb35:Below w3.heap.size w3 W5:=by rw [hW5];exact zi hb4 _
   have kf5:Blk W5 w4.heap.size #[.int .i64 1,.int .i64 kind,.int .i64 src,.int .i64 dn,.int .u32 0,.int .u32 0,.int .u32 0,.int .u32 0,.string (bs data)] 182:=by rw [hW5];exact Blk.new rfl
   have oe3:ow2 2=[]:=oe2;rw [← hW5];clear hW5 c3;have hI5:=(zk.loc B K tv lp _ t).cut hI3 hb35;have kn5:=kn3.call hb35;have hst5:zq t ow w (ow2.cut w3) W5:=hst3.trans (zq.wrap hb35 (zq.refl _ _ _));have oe5:(ow2.cut w3) 2=[]:=(Own.cut_old he3.lt).trans oe3;have he5:jE W5 a:=he3.below hb35 he3.lt;have kB5:=hI5.blk;obtain⟨b,hnb,px,sb,lb,pb,av,hN5⟩:=hI5.node (i:=dn) (by have:=hG.n0;omega) (m:=zr S dn) (by rw [hn1];exact(hG.node hdn).1);have hc5:=hI5.nodeCell hnb;have hdw:=λW hW=>qL (px:=px) (sb:=sb) (lb:=lb) (pb:=pb) (av:=av) (n:=zr S dn) (B:=b) W hW
   have hbk:=hN5.blk;rw [hn1,hN] at kB5;replace hdw:=hid hdw;have y0:(0:Int)<=(dn:Int):=by omega
   have y1:(dn:Int)<(N:Int):=by omega
   refine zd [O 0,O 1,O 2,O 3,O 4,O 5,O 6,O 7,O 8,O 9,O 10,E 11,O 12,O 13] none (λw'=>w'.cell? ⟨K.nb,dn,none⟩=some (.pointer (some ⟨b,0,none⟩))/\Blk w' B #[.slice (some ⟨K.nb,0,none⟩) N K.nc,.slice (some ⟨K.sb,0,none⟩) N N,.map (some K.lm),.pointer (some ⟨K.fb,0,none⟩),.map (some K.hm),.map (some K.dm),tv] 65/\Blk w' nb #[.int .u32 (id:Nat),.int .i64 (dn:Nat),.string (bs str)] 178/\True) (by kernel_rfl) (by kernel_rfl) ⟨hc5,kB5.drew,kn5.drew,trivial⟩ ?_
   (repeat (refine za (v:=?_) rfl rfl (λw' h=>?_) (λK k=>?_);rotate_left;obtain⟨f1,f2,f3,_⟩:=h;have e2:=f2.cell;have e3:=f3.cell;go_simp;(try with_reducible rfl);go_simp;refine k _ ?_;clear k K))
   refine zc rfl (λJ hJ=>?_);go_wp2_with fail
   refine(hdw.out _ hbk.drew).mono ?_;rintro e w6⟨rfl,rfl⟩;go_wp2;refine hJ.out _ _ (λ_=>⟨hc5,kB5.drew,kn5.drew,trivial⟩) ?_;clear hJ J;have htw2:=htw.out;rw [hdf.out] at htw2
   cases hdd:(zr S dn).down with
   |true=>
    rw [if_neg (by rw [hdd];simp)] at htw2;replace htw2:=hid htw2
    (repeat (refine za (v:=?_) rfl rfl (λw' h=>?_) (λK k=>?_);rotate_left;obtain⟨f1,f2,f3,_⟩:=h;have e2:=f2.cell;have e3:=f3.cell;go_simp;(try with_reducible rfl);go_simp;refine k _ ?_;clear k K))
    refine ze ?_;go_wp2;go_ret
    exact⟨by rw [htw2.out];rfl,_,hst5.trans (zq.drew _ _ _),by rw [htw2.out];exact⟨tv,lp,(zk.loc B K tv lp _ t).below hI5 (zo (N2 _ _))⟩⟩
   |false=>
    rw [if_pos ⟨rfl,hdd⟩] at htw2;simp only at htw2;replace htw2:=hid htw2;have hrv:=zdo B K S1 hG1 hL t ht (ow2.cut w3) a dn src (by rw [hn1];exact hdn) (by rw [hn1];exact hsr) kind dn data hdl (by unfold zr;rw [hn1];exact hdd) W5.drew ⟨tv,lp,(zk.loc B K tv lp _ t).below hI5 (zo (N2 _ _))⟩ he5 oe5;unfold Jj at hrv;replace hrv:=hid hrv;have c5:=kn5.cell;have d5:=kf5.cell;replace hdd:=hid hdd
    (repeat (refine za (v:=?_) rfl rfl (λw' h=>?_) (λK k=>?_);rotate_left;obtain⟨f1,f2,f3,_⟩:=h;have e2:=f2.cell;have e3:=f3.cell;go_simp;(try with_reducible rfl);go_simp;refine k _ ?_;clear k K))
    refine ze ?_;go_wp2_with fail
    refine hrv.out.mono ?_;rintro e w7⟨rfl,ow7,hs7,hW7⟩;go_wp2;go_ret
    exact⟨by rw [htw2.out];rfl,ow7,(hst5.trans (zq.drew _ _ _)).trans hs7,by rw [htw2.out];exact hW7⟩
 ·have e2:=zed hp
  have htw:xw S p=(S,2):=by
   unfold xw
   by_cases h0:p<0
   ·rw [if_pos h0]
   ·rw [if_neg h0,List.getElem?_eq_none (by omega)]
  rw [htw];rw [e2] at htk;unfold zhu at htk;simp only at htk;replace htk:=hid htk;replace htw:=hid htw;clear hp
  go_enter func50,ntmps50
  go_wp2_with fail
  refine(htk.out _ _ hI.flight).mono ?_;rintro e w1⟨rfl,ow1,hs1,hF1⟩;have hI1:=hI.setFlight hs1 hF1;clear c0;go_wp2;go_ret
  exact⟨rfl,ow1,(hs1.mono (Sub.child t 16)).trans (zq.of_below t ow1 (zi (N2 _ _) _)),tv,lp,(zk.loc B K tv lp _ t).below hI1 (zi (N2 _ _) _)⟩
