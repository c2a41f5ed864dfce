/- PARTS OF THE PROOF. -/
import Derived.WalkSmall
import Derived.Test.YtofppfoioodblaaGreatDoorTT16
import Derived.Test.YtofppfoioodblaaGreatDoorTT18
import Derived.Test.YtofppfoioodblaaGreatDoorTT22
import Derived.Test.YtofppfoioodblaaGreatDoorTT23
import Derived.Test.YtofppfoioodblaaGreatDoorTT24
set_option maxRecDepth 8000
set_option maxHeartbeats 4000000
open Go.Proofs.Tryz
namespace Go.Proofs.YtofppfoioodblaaGreatDoor
section
open Go Go.RowKit Go.Shelf Go.Extern.Stop Go.Stop Go.Extern
attribute [local go_sem] Oper.semAt_some zv zm
def zz(px sb lb pb:Nat)(av:Value)(n:zp):Array Value:=
 #[.pointer (some ⟨px,0,none⟩),.int .i64 n.id,.int .i64 n.version,.slice none 0 0,.pointer (some ⟨sb,0,none⟩),.pointer (some ⟨lb,0,none⟩),.pointer (some ⟨pb,0,none⟩),av,.int .i64 (n.offered:Nat),.int .i64 (n.applied:Nat),.int .i64 n.wanted,.bool n.down]
structure zx(B px sb lb pb:Nat)(av:Value)(n:zp)(t:List Nat)(ow:Own)(W:World):Prop where
 blk:Blk W B (zz px sb lb pb av n) 98
 pax:j4 px n.pax (t++ [0]) ow W
 st:jp sb n.store (t++ [1]) ow W
 lo:zI lb n.loc (t++ [2]) ow W
 pool:jU pb n.pool (t++ [3]) ow W
 row:Row W 78 3 av n.acc.length (n.acc.flatMap zh)
 own:ow B=t
 rown:∀g,av.ownBlock=some g->ow g=t++ [4]
 bad:n.bad=[]
theorem zx.loc(B px sb lb pb:Nat)(av:Value)(n:zp)(t:List Nat):yK t (zx B px sb lb pb av n t):=by
 intro ow ow' W W' h hs hk;have kB:=hk B h.blk.lt (by rw [h.own];exact Sub.rfl' t);have kR:∀g,av.ownBlock=some g->ow' g=ow g/\W'.heap[g]?=W.heap[g]?:=λg hg=>hk g (h.row.lt hg) (by rw [h.rown g hg];exact Sub.child t 4)
 exact⟨h.blk.kept kB.2,j4.loc px n.pax (t++ [0]) _ _ _ _ h.pax hs (λk a b=>hk k a ((Sub.child t 0).trans b)),jp.loc sb n.store (t++ [1]) _ _ _ _ h.st hs (λk a b=>hk k a ((Sub.child t 1).trans b)),
  zI.loc lb n.loc (t++ [2]) _ _ _ _ h.lo hs (λk a b=>hk k a ((Sub.child t 2).trans b)),jU.loc pb n.pool (t++ [3]) _ _ _ _ h.pool hs (λk a b=>hk k a ((Sub.child t 3).trans b)),
  h.row.kept (λg hg=>(kR g hg).2),kB.1.trans h.own,λg hg=>(kR g hg).1.trans (h.rown g hg),h.bad⟩
def jC(B:Nat)(n:zp)(t:List Nat)(ow:Own)(W:World):Prop:=∃px sb lb pb av,zx B px sb lb pb av n t ow W
theorem jC.loc(B:Nat)(n:zp)(t:List Nat):yK t (jC B n t):=by
 rintro ow ow' W W'⟨px,sb,lb,pb,av,h⟩ hs hk;exact⟨px,sb,lb,pb,av,zx.loc B px sb lb pb av n t _ _ _ _ h hs hk⟩
theorem Z6(t:List Nat){i j:Nat}(h:i≠j){u:List Nat}(hu:u=t++ [j]):¬Sub (t++ [i]) u:=by subst hu;exact(zP t h).1
theorem qq(t:List Nat)(i:Nat){u:List Nat}(hu:u=t):¬Sub (t++ [i]) u:=by subst hu;exact zQ _ i
variable {B px sb lb pb:Nat}{av:Value}{n:zp}{t:List Nat}{ow ow':Own}{W W':World}
theorem zx.blkS(h:zx B px sb lb pb av n t ow W){i:Nat}(hs:zq (t++ [i]) ow W ow' W'):Blk W' B (zz px sb lb pb av n) 98:=h.blk.kept (hs.block h.blk.lt (qq t i h.own))
theorem zx.rowS(h:zx B px sb lb pb av n t ow W){i:Nat}(hi:i≠4)(hs:zq (t++ [i]) ow W ow' W'):Row W' 78 3 av n.acc.length (n.acc.flatMap zh):=h.row.kept (λg hg=>hs.block (h.row.lt hg) (Z6 t hi (h.rown g hg)))
theorem zx.ownS(h:zx B px sb lb pb av n t ow W){i:Nat}(hs:zq (t++ [i]) ow W ow' W'):ow' B=t:=(hs.agree B h.blk.lt).trans h.own
theorem zx.rownS(h:zx B px sb lb pb av n t ow W){i:Nat}(hs:zq (t++ [i]) ow W ow' W'):∀g,av.ownBlock=some g->ow' g=t++ [4]:=λg hg=>(hs.agree g (h.row.lt hg)).trans (h.rown g hg)
theorem zx.setPax(h:zx B px sb lb pb av n t ow W)(p:xn)(hs:zq (t++ [0]) ow W ow' W')(hp:j4 px p (t++ [0]) ow' W'):zx B px sb lb pb av {n with pax:=p} t ow' W':=
 ⟨h.blkS hs,hp,(jp.loc _ _ _).step h.st hs (zP t (by decide)),(zI.loc _ _ _).step h.lo hs (zP t (by decide)),(jU.loc _ _ _).step h.pool hs (zP t (by decide)),h.rowS (by decide) hs,h.ownS hs,h.rownS hs,h.bad⟩
theorem zx.setStore(h:zx B px sb lb pb av n t ow W)(s:yb)(hs:zq (t++ [1]) ow W ow' W')(hp:jp sb s (t++ [1]) ow' W'):zx B px sb lb pb av {n with store:=s} t ow' W':=
 ⟨h.blkS hs,(j4.loc _ _ _).step h.pax hs (zP t (by decide)),hp,(zI.loc _ _ _).step h.lo hs (zP t (by decide)),(jU.loc _ _ _).step h.pool hs (zP t (by decide)),h.rowS (by decide) hs,h.ownS hs,h.rownS hs,h.bad⟩
theorem zx.setLocal(h:zx B px sb lb pb av n t ow W)(L:zR)(hs:zq (t++ [2]) ow W ow' W')(hp:zI lb L (t++ [2]) ow' W'):zx B px sb lb pb av {n with loc:=L} t ow' W':=
 ⟨h.blkS hs,(j4.loc _ _ _).step h.pax hs (zP t (by decide)),(jp.loc _ _ _).step h.st hs (zP t (by decide)),hp,(jU.loc _ _ _).step h.pool hs (zP t (by decide)),h.rowS (by decide) hs,h.ownS hs,h.rownS hs,h.bad⟩
theorem zx.setPool(h:zx B px sb lb pb av n t ow W)(p:vU)(hs:zq (t++ [3]) ow W ow' W')(hp:jU pb p (t++ [3]) ow' W'):zx B px sb lb pb av {n with pool:=p} t ow' W':=
 ⟨h.blkS hs,(j4.loc _ _ _).step h.pax hs (zP t (by decide)),(jp.loc _ _ _).step h.st hs (zP t (by decide)),(zI.loc _ _ _).step h.lo hs (zP t (by decide)),hp,h.rowS (by decide) hs,h.ownS hs,h.rownS hs,h.bad⟩
theorem zx.setOwn(h:zx B px sb lb pb av n t ow W)(m:zp)(hM:Mod (λk=>k=B) W W')(hB:Blk W' B (zz px sb lb pb av m) 98)(e1:m.pax=n.pax)(e2:m.store=n.store)(e3:m.loc=n.loc)(e4:m.pool=n.pool)(e5:m.acc=n.acc)(e6:m.bad=n.bad):
 zq t ow W ow W'/\zx B px sb lb pb av m t ow W':=by
 have hk:∀(i:Nat)(k:Nat),k<W.heap.size->Sub (t++ [i]) (ow k)->ow k=ow k/\W'.heap[k]?=W.heap[k]?:=λi k hk hs=>⟨rfl,hM.block k hk (λe=>by subst e;rw [h.own] at hs;exact zQ t i hs)⟩
 refine⟨⟨hM.mono (λk _ e=>by subst e;rw [h.own];exact Sub.rfl' _),λ_ _=>rfl⟩,hB,?_,?_,?_,?_,?_,h.own,h.rown,e6.trans h.bad⟩
 ·rw [e1];exact j4.loc _ _ _ _ _ _ _ h.pax hM.size (hk 0)
 ·rw [e2];exact jp.loc _ _ _ _ _ _ _ h.st hM.size (hk 1)
 ·rw [e3];exact zI.loc _ _ _ _ _ _ _ h.lo hM.size (hk 2)
 ·rw [e4];exact jU.loc _ _ _ _ _ _ _ h.pool hM.size (hk 3)
 ·rw [e5];exact h.row.mod hM (λg hg e=>h.row.ne_blk h.blk (by decide) hg e)
def vL(B:Nat)(n:zp)(t:List Nat)(ow:Own)(w:World)(v:Value)(e:Ending)(w':World):Prop:=
 e=.returned v/\∃ow',zq t ow w ow' w'/\jC B n t ow' w'
theorem V8(a:Addr)(w:World):(binOp .eql 95 (.pointer (some a)) (.pointer none)).run prog w=.ok (.bool false) w:=by kernel_rfl
theorem Zw(w:World)(hB:Blk w B (zz px sb lb pb av n) 98):Calls prog 37 #[.pointer (some ⟨B,0,none⟩)] w λe w'=>e=.returned (.bool false)/\w'=w:=by
 unfold zz at hB;have e0:=hB.cell;have h0:=V8 ⟨sb,0,none⟩ w
 go_enter func37,ntmps37
 go_wp2;go_ret
 exact⟨rfl,rfl⟩
theorem vX(w:World)(hB:Blk w B (zz px sb lb pb av n) 98):Calls prog 90 #[.pointer (some ⟨B,0,none⟩)] w λe w'=>e=.returned (.int .i64 (Jw n))/\w'=w:=by
 have hn:=Zw w hB;unfold zz at hB;have e0:=hB.cell;unfold Jw;replace hn:=hid hn
 cases hd:n.down
 ·rw [hd] at e0
  replace hd:=hid hd;replace hB:=hid hB
  go_enter func90,ntmps90
  go_wp2_with (go_at_call 37;refine hn.out.mono ?_;rintro e w1 ⟨rfl,hw1⟩;obtain rfl:=hw1.symm)
  go_ret
  exact⟨rfl,rfl⟩
 ·rw [hd] at e0
  replace hd:=hid hd;replace hB:=hid hB
  go_enter func90,ntmps90
  go_wp2_with (go_at_call 37;refine hn.out.mono ?_;rintro e w1 ⟨rfl,hw1⟩;obtain rfl:=hw1.symm)
  go_ret
  exact⟨rfl,rfl⟩
theorem JI(w:World)(h:zx B px sb lb pb av n t ow w)(hl:n.acc.length<=1073741824):Calls prog 17 #[.pointer (some ⟨B,0,none⟩)] w λe w'=>
 ∃v',e=.returned v'/\Row w' 78 3 v' n.acc.length (n.acc.flatMap zh)/\Below w.heap.size w w'/\(∀g,v'.ownBlock=some g->w.heap.size<=g):=by
 have hB:=h.blk;have hn:=Zw w hB;have hc:=Vx av n.acc w h.row.src hl;unfold zz at hB;have e0:=hB.cell;replace hn:=hid hn;replace hc:=hid hc;clear h hB
 go_enter func17,ntmps17
 go_wp2_with (first
  |(go_at_call 37;refine hn.out.mono ?_;rintro e w1 ⟨rfl,hw1⟩;obtain rfl:=hw1.symm)
  |(go_at_call 38;refine hc.out.mono ?_;rintro e w2 ⟨v',rfl,h1,h2,h3⟩;replace h3:Hid (∀_,_):=h3))
 go_ret
 exact⟨_,rfl,h1,h2,h3.out⟩
theorem Yu(w:World)(hB:Blk w B (zz px sb lb pb av n) 98):Calls prog 21 #[.pointer (some ⟨B,0,none⟩)] w λe w'=>e=.returned (.pointer (some ⟨lb,0,none⟩))/\w'=w:=by
 have hn:=Zw w hB;unfold zz at hB;have e0:=hB.cell;replace hn:=hid hn;replace hB:=hid hB
 go_enter func21,ntmps21
 go_wp2_with (go_at_call 37;refine hn.out.mono ?_;rintro e w1 ⟨rfl,hw1⟩;obtain rfl:=hw1.symm)
 go_ret
 exact⟨rfl,rfl⟩
end
open Go Go.RowKit Go.Shelf Go.Extern.Stop Go.Stop Go.Extern
attribute [local go_sem] Oper.semAt_some zv zm
theorem vY(B:Nat)(b:Bool)(w:World):Calls prog 93 #[.pointer (some ⟨B,0,none⟩),.bool b] w λe w'=>
 e=.returned (.func (.func 136) #[] #[.pointer (some ⟨w.heap.size,0,none⟩),.pointer (some ⟨w.heap.size+1,0,none⟩)])/\w'=(w.alloc (.cells #[.pointer (some ⟨B,0,none⟩)] 43)).alloc (.cells #[.bool b] 4):=by
 go_enter func93,ntmps93
 go_wp2;go_ret
 exact⟨rfl,rfl⟩
theorem zac:∀(l:List (List UInt8)),Lib.join l []=l.flatten
 | []=>by simp [Lib.join,List.intercalate]
 | [x]=>by simp [Lib.join,List.intercalate]
 |x::y::l=>by
  have ih:=zac (y::l);simp only [Lib.join,List.intercalate,List.intersperse_cons_cons,List.flatten_cons,List.nil_append] at*;rw [ih]
theorem zbs(v:Value)(ts:List (List UInt8))(w:World)(hv:Src w v 1 ts.length (yD ts))(h0:0<ts.length)(hn:ts.length<=1000)(hl:ts.flatten.length<=1073741824):
 Calls prog 138 #[v,.string ⟨#[]⟩] w λe w'=>e=.returned (.string (bs ts.flatten))/\Below w.heap.size w w':=by
 rcases hv.2 with⟨rfl,hz⟩|⟨b,off,cap,rfl,hc,hr⟩
 ·omega
 ·have hb:b<w.heap.size:=jH (hr 0 _ (by simp [yD];exact⟨_,N3 h0,rfl⟩))
  have hm:(ts.map bs).map (λs:ByteArray=>s.data.toList)=ts:=by rw [List.map_map];exact(List.map_congr_left (λx _=>qw x)).trans (List.map_id _)
  have hj:=Tryz.strings_Join b off cap (ts.map bs) ⟨#[]⟩ w (λj t hz=>by
   obtain⟨x,hx,rfl⟩:∃x,ts[j]?=some x/\bs x=t:=by simpa using hz
   exact hr j _ (by simp [yD,hx])) hb (by simp;omega) (by simpa using hc) (by
    rw [hm];show(Lib.join ts []).length<=_;rw [zac];omega)
  rw [hm,show Lib.join ts (ByteArray.mk #[]).data.toList=ts.flatten from zac ts,List.length_map] at hj;exact hj
theorem zi4(B:Nat)(n:zp)(t:List Nat)(ow:Own)(b:Bool)(kb kc:Nat)(v:Value)(ts:List (List UInt8))(w:World)(h:jC B n t ow w)(hcap:vz n.store)(k0:Blk w kb #[.pointer (some ⟨B,0,none⟩)] 43)(k1:Blk w kc #[.bool b] 4)
 (ho0:ow kb=[]) (ho1:ow kc=[]) (hv:Src w v 1 ts.length (yD ts)) (h0:0<ts.length) (hn:ts.length<=1000) (hl:ts.flatten.length<=1073741000):
 Calls prog 136 #[v,.pointer (some ⟨kb,0,none⟩),.pointer (some ⟨kc,0,none⟩)] w (vL B (yf n b ts.flatten).1 t ow w (.int .i64 (yf n b ts.flatten).2)):=by
 obtain⟨px,sb,lb,pb,av,hN⟩:=h;have hjoin:=λW hW=>zbs v ts W hW h0 hn (by omega)
 have hwr:=λW hW=>zcS sb n.store (t++ [1]) ow ts.flatten W hW hcap hl
 have hB:=hN.blk;have hkn:yf n b ts.flatten=({n with store:=(z6 n.store ts.flatten).1,down:=n.down||decide ((z6 n.store ts.flatten).2=31)||(b && decide ((z6 n.store ts.flatten).2≠0))},(z6 n.store ts.flatten).2):=rfl
 generalize ts.flatten=d at*
 obtain⟨⟨s',er⟩,hw⟩:∃x,z6 n.store d=x:=⟨_,rfl⟩;rw [hw] at hwr hkn;simp only at hwr hkn;rw [hkn];simp only
 obtain⟨va,vn,vc,rfl⟩:∃a n c,v=.slice a n c:=by
  rcases hv.2 with⟨rfl, -⟩|⟨b,off,cap,rfl, -⟩
  ·exact⟨_,_,_,rfl⟩
  ·exact⟨_,_,_,rfl⟩
 unfold zz at hB;replace hjoin:=hid hjoin;replace hwr:=hid hwr;replace hkn:=hid hkn;replace hw:=hid hw
 by_cases h31:er=31
 ·have t1:(er==31)=true:=by simp [h31]
  rw [show(n.down||decide (er=31)||(b && decide (er≠0)))=true by simp [h31]];replace h31:=hid h31
  go_enter func136,ntmps136
  go_wp2_with fail
  refine zd [O 0,O 1,O 2,O 3,O 4,E 5,E 6,O 7] none (λw'=>Blk w' kb #[.pointer (some ⟨B,0,none⟩)] 43/\Blk w' B #[.pointer (some ⟨px,0,none⟩),.int .i64 n.id,.int .i64 n.version,.slice none 0 0,.pointer (some ⟨sb,0,none⟩),.pointer (some ⟨lb,0,none⟩),.pointer (some ⟨pb,0,none⟩),av,.int .i64 (n.offered:Nat),.int .i64 (n.applied:Nat),.int .i64 n.wanted,.bool n.down] 98/\True) (by kernel_rfl) (by kernel_rfl) ⟨k0.drew,hB.drew,trivial⟩ ?_
  (repeat (refine za (v:=?_) rfl rfl (λw' h=>?_) (λK k=>?_);rotate_left;obtain⟨f1,f2,_⟩:=h;have e1:=f1.cell;have e2:=f2.cell;go_simp;(try with_reducible rfl);go_simp;refine k _ ?_;clear k K))
  refine zc rfl (λK hK=>?_);go_wp2_with fail
  refine(hjoin.out _ (hv.below (pbx))).mono ?_;rintro e w1⟨rfl,hb1⟩;have hbw1:Below w.heap.size w w1:=pbx;have k01:=k0.call hbw1;have kB1:=hB.call hbw1;go_wp2;refine hK.out _ _ (λ_=>⟨k01,kB1,trivial⟩) ?_;clear hK K;have hN1:=(zx.loc B px sb lb pb av n t).below hN hbw1;have hk01:=k0.lt;have hk11:=k1.lt;refine zc rfl (λK hK=>?_);go_wp2_with fail
  refine(hwr.out _ hN1.st).mono ?_;rintro e w2⟨rfl,ow2,hs2,h2⟩;have hz1:=hbw1.size;have hn0:¬Sub (t++ [1]) (ow kb):=by rw [ho0];exact zj (by simp)
  have hn1:¬Sub (t++ [1]) (ow kc):=by rw [ho1];exact zj (by simp)
  have k02:=k01.kept (hs2.block k01.lt hn0);have k12:=(k1.call hbw1).kept (hs2.block (k1.call hbw1).lt hn1);have kB2:=hN1.blkS hs2;have hN2:=hN1.setStore s' hs2 h2;have hstep2:zq t ow w ow2 w2:=(zq.of_below t ow hbw1).trans (hs2.mono (Sub.child t 1));unfold zz at kB2;go_wp2;refine hK.out _ _ (λ_=>⟨k02,kB2,trivial⟩) ?_;clear hK K
  (repeat (refine za (v:=?_) rfl rfl (λw' h=>?_) (λK k=>?_);rotate_left;obtain⟨f1,f2,_⟩:=h;have e1:=f1.cell;have e2:=f2.cell;go_simp;(try with_reducible rfl);go_simp;refine k _ ?_;clear k K))
  refine ze ?_;have c02:=k02.cell;have c12:=k12.cell;have cB2:=kB2.cell;have fB2:=kB2.frozen;have lB2:=kB2.lt;go_wp2;go_ret
  have hq:=hN2.setOwn (W':=w2.setCell ⟨B,11,none⟩ (.bool true)) {n with store:=s',down:=true} ((Mod.refl (λk=>k=B) w2).thenSet (p:=⟨B,11,none⟩) rfl _) (kB2.set (o:=11) _) rfl rfl rfl rfl rfl rfl;exact⟨rfl,ow2,hstep2.trans hq.1,_,_,_,_,_,hq.2⟩
 ·have t1:(er==31)=false:=by simp [h31]
  rw [show decide (er=31)=false by simpa using h31,Bool.or_false];replace h31:=hid h31
  cases b
  ·rw [Bool.false_and,Bool.or_false]
   go_enter func136,ntmps136
   go_wp2_with fail
   refine zd [O 0,O 1,O 2,O 3,O 4,E 5,E 6,O 7] none (λw'=>Blk w' kb #[.pointer (some ⟨B,0,none⟩)] 43/\Blk w' B #[.pointer (some ⟨px,0,none⟩),.int .i64 n.id,.int .i64 n.version,.slice none 0 0,.pointer (some ⟨sb,0,none⟩),.pointer (some ⟨lb,0,none⟩),.pointer (some ⟨pb,0,none⟩),av,.int .i64 (n.offered:Nat),.int .i64 (n.applied:Nat),.int .i64 n.wanted,.bool n.down] 98/\True) (by kernel_rfl) (by kernel_rfl) ⟨k0.drew,hB.drew,trivial⟩ ?_
   (repeat (refine za (v:=?_) rfl rfl (λw' h=>?_) (λK k=>?_);rotate_left;obtain⟨f1,f2,_⟩:=h;have e1:=f1.cell;have e2:=f2.cell;go_simp;(try with_reducible rfl);go_simp;refine k _ ?_;clear k K))
   refine zc rfl (λK hK=>?_);go_wp2_with fail
   refine(hjoin.out _ (hv.below (pbx))).mono ?_;rintro e w1⟨rfl,hb1⟩;have hbw1:Below w.heap.size w w1:=pbx;have k01:=k0.call hbw1;have kB1:=hB.call hbw1;go_wp2;refine hK.out _ _ (λ_=>⟨k01,kB1,trivial⟩) ?_;clear hK K;have hN1:=(zx.loc B px sb lb pb av n t).below hN hbw1;have hk01:=k0.lt;have hk11:=k1.lt;refine zc rfl (λK hK=>?_);go_wp2_with fail
   refine(hwr.out _ hN1.st).mono ?_;rintro e w2⟨rfl,ow2,hs2,h2⟩;have hz1:=hbw1.size;have hn0:¬Sub (t++ [1]) (ow kb):=by rw [ho0];exact zj (by simp)
   have hn1:¬Sub (t++ [1]) (ow kc):=by rw [ho1];exact zj (by simp)
   have k02:=k01.kept (hs2.block k01.lt hn0);have k12:=(k1.call hbw1).kept (hs2.block (k1.call hbw1).lt hn1);have kB2:=hN1.blkS hs2;have hN2:=hN1.setStore s' hs2 h2;have hstep2:zq t ow w ow2 w2:=(zq.of_below t ow hbw1).trans (hs2.mono (Sub.child t 1));unfold zz at kB2;go_wp2;refine hK.out _ _ (λ_=>⟨k02,kB2,trivial⟩) ?_;clear hK K
   (repeat (refine za (v:=?_) rfl rfl (λw' h=>?_) (λK k=>?_);rotate_left;obtain⟨f1,f2,_⟩:=h;have e1:=f1.cell;have e2:=f2.cell;go_simp;(try with_reducible rfl);go_simp;refine k _ ?_;clear k K))
   refine ze ?_;have c02:=k02.cell;have c12:=k12.cell;have cB2:=kB2.cell;have fB2:=kB2.frozen;have lB2:=kB2.lt;go_wp2;go_ret
   exact⟨rfl,ow2,hstep2,_,_,_,_,_,hN2⟩
  ·rw [Bool.true_and]
   by_cases he:er=0
   ·have t2:(er !=0)=false:=by simp [he]
    rw [show decide (er≠0)=false by simp [he],Bool.or_false];replace he:=hid he
    go_enter func136,ntmps136
    go_wp2_with fail
    refine zd [O 0,O 1,O 2,O 3,O 4,E 5,E 6,O 7] none (λw'=>Blk w' kb #[.pointer (some ⟨B,0,none⟩)] 43/\Blk w' B #[.pointer (some ⟨px,0,none⟩),.int .i64 n.id,.int .i64 n.version,.slice none 0 0,.pointer (some ⟨sb,0,none⟩),.pointer (some ⟨lb,0,none⟩),.pointer (some ⟨pb,0,none⟩),av,.int .i64 (n.offered:Nat),.int .i64 (n.applied:Nat),.int .i64 n.wanted,.bool n.down] 98/\True) (by kernel_rfl) (by kernel_rfl) ⟨k0.drew,hB.drew,trivial⟩ ?_
    (repeat (refine za (v:=?_) rfl rfl (λw' h=>?_) (λK k=>?_);rotate_left;obtain⟨f1,f2,_⟩:=h;have e1:=f1.cell;have e2:=f2.cell;go_simp;(try with_reducible rfl);go_simp;refine k _ ?_;clear k K))
    refine zc rfl (λK hK=>?_);go_wp2_with fail
    refine(hjoin.out _ (hv.below (pbx))).mono ?_;rintro e w1⟨rfl,hb1⟩;have hbw1:Below w.heap.size w w1:=pbx;have k01:=k0.call hbw1;have kB1:=hB.call hbw1;go_wp2;refine hK.out _ _ (λ_=>⟨k01,kB1,trivial⟩) ?_;clear hK K;have hN1:=(zx.loc B px sb lb pb av n t).below hN hbw1;have hk01:=k0.lt;have hk11:=k1.lt;refine zc rfl (λK hK=>?_);go_wp2_with fail
    refine(hwr.out _ hN1.st).mono ?_;rintro e w2⟨rfl,ow2,hs2,h2⟩;have hz1:=hbw1.size;have hn0:¬Sub (t++ [1]) (ow kb):=by rw [ho0];exact zj (by simp)
    have hn1:¬Sub (t++ [1]) (ow kc):=by rw [ho1];exact zj (by simp)
    have k02:=k01.kept (hs2.block k01.lt hn0);have k12:=(k1.call hbw1).kept (hs2.block (k1.call hbw1).lt hn1);have kB2:=hN1.blkS hs2;have hN2:=hN1.setStore s' hs2 h2;have hstep2:zq t ow w ow2 w2:=(zq.of_below t ow hbw1).trans (hs2.mono (Sub.child t 1));unfold zz at kB2;go_wp2;refine hK.out _ _ (λ_=>⟨k02,kB2,trivial⟩) ?_;clear hK K
    (repeat (refine za (v:=?_) rfl rfl (λw' h=>?_) (λK k=>?_);rotate_left;obtain⟨f1,f2,_⟩:=h;have e1:=f1.cell;have e2:=f2.cell;go_simp;(try with_reducible rfl);go_simp;refine k _ ?_;clear k K))
    refine ze ?_;have c02:=k02.cell;have c12:=k12.cell;have cB2:=kB2.cell;have fB2:=kB2.frozen;have lB2:=kB2.lt;go_wp2;go_ret
    exact⟨rfl,ow2,hstep2,_,_,_,_,_,hN2⟩
   ·have t2:(er !=0)=true:=by simpa using he
    rw [show decide (er≠0)=true by simp [he],Bool.or_true];replace he:=hid he
    go_enter func136,ntmps136
    go_wp2_with fail
    refine zd [O 0,O 1,O 2,O 3,O 4,E 5,E 6,O 7] none (λw'=>Blk w' kb #[.pointer (some ⟨B,0,none⟩)] 43/\Blk w' B #[.pointer (some ⟨px,0,none⟩),.int .i64 n.id,.int .i64 n.version,.slice none 0 0,.pointer (some ⟨sb,0,none⟩),.pointer (some ⟨lb,0,none⟩),.pointer (some ⟨pb,0,none⟩),av,.int .i64 (n.offered:Nat),.int .i64 (n.applied:Nat),.int .i64 n.wanted,.bool n.down] 98/\True) (by kernel_rfl) (by kernel_rfl) ⟨k0.drew,hB.drew,trivial⟩ ?_
    (repeat (refine za (v:=?_) rfl rfl (λw' h=>?_) (λK k=>?_);rotate_left;obtain⟨f1,f2,_⟩:=h;have e1:=f1.cell;have e2:=f2.cell;go_simp;(try with_reducible rfl);go_simp;refine k _ ?_;clear k K))
    refine zc rfl (λK hK=>?_);go_wp2_with fail
    refine(hjoin.out _ (hv.below (pbx))).mono ?_;rintro e w1⟨rfl,hb1⟩;have hbw1:Below w.heap.size w w1:=pbx;have k01:=k0.call hbw1;have kB1:=hB.call hbw1;go_wp2;refine hK.out _ _ (λ_=>⟨k01,kB1,trivial⟩) ?_;clear hK K;have hN1:=(zx.loc B px sb lb pb av n t).below hN hbw1;have hk01:=k0.lt;have hk11:=k1.lt;refine zc rfl (λK hK=>?_);go_wp2_with fail
    refine(hwr.out _ hN1.st).mono ?_;rintro e w2⟨rfl,ow2,hs2,h2⟩;have hz1:=hbw1.size;have hn0:¬Sub (t++ [1]) (ow kb):=by rw [ho0];exact zj (by simp)
    have hn1:¬Sub (t++ [1]) (ow kc):=by rw [ho1];exact zj (by simp)
    have k02:=k01.kept (hs2.block k01.lt hn0);have k12:=(k1.call hbw1).kept (hs2.block (k1.call hbw1).lt hn1);have kB2:=hN1.blkS hs2;have hN2:=hN1.setStore s' hs2 h2;have hstep2:zq t ow w ow2 w2:=(zq.of_below t ow hbw1).trans (hs2.mono (Sub.child t 1));unfold zz at kB2;go_wp2;refine hK.out _ _ (λ_=>⟨k02,kB2,trivial⟩) ?_;clear hK K
    (repeat (refine za (v:=?_) rfl rfl (λw' h=>?_) (λK k=>?_);rotate_left;obtain⟨f1,f2,_⟩:=h;have e1:=f1.cell;have e2:=f2.cell;go_simp;(try with_reducible rfl);go_simp;refine k _ ?_;clear k K))
    refine ze ?_;have c02:=k02.cell;have c12:=k12.cell;have cB2:=kB2.cell;have fB2:=kB2.frozen;have lB2:=kB2.lt;go_wp2;go_ret
    have hq:=hN2.setOwn (W':=w2.setCell ⟨B,11,none⟩ (.bool true)) {n with store:=s',down:=true} ((Mod.refl (λk=>k=B) w2).thenSet (p:=⟨B,11,none⟩) rfl _) (kB2.set (o:=11) _) rfl rfl rfl rfl rfl rfl;exact⟨rfl,ow2,hstep2.trans hq.1,_,_,_,_,_,hq.2⟩
theorem Zx(B:Nat)(n:zp)(t:List Nat)(ow:Own)(w:World)(h:jC B n t ow w)(hl:n.acc.length<=536870912):
 Calls prog 94 #[.pointer (some ⟨B,0,none⟩)] w (vL B (jG (n.acc.length+1) n) t ow w (.tuple #[])):=by
 go_enter func94,ntmps94
 go_wp2
 go_loopw [2] (λ_ wr=>∃(k:Nat)(m:zp)(ow':Own),jC B m t ow' wr/\zq t ow w ow' wr/\m.acc=n.acc/\jG (n.acc.length+1) n=jG k m/\n.acc.length<k+m.offered) (λ_ wr=>n.acc.length - (intOf (qy (.pointer (some ⟨B,0,none⟩)) 8 wr)).toNat)
 case atStart=>exact⟨_,n,ow,h,zq.refl _ _ _,rfl,rfl,by omega⟩
 case round=>
  obtain⟨k,m,ow',⟨px,sb,lb,pb,av,hN⟩,hst,hacc,hof,hk⟩:=hrel;have hB:=hN.blk;have hmea:qy (.pointer (some ⟨B,0,none⟩)) 8 wr=.int .i64 (m.offered:Nat):=by show(wr.cell? ⟨B,8,none⟩).getD undef=_;rw [hB.cell 8];rfl
  have hrow:=hN.row;unfold zz at hB;obtain⟨va,vc,hav⟩:=hrow.src.shape;subst hav
  by_cases hlt:m.offered<m.acc.length
  ·obtain⟨x,hx⟩:∃x,m.acc[m.offered]?=some x:=⟨_,N3 hlt⟩
   obtain⟨k',rfl⟩:∃k',k=k'+1:=⟨k - 1,by rw [hacc] at hlt;omega⟩
   have hoN:jG (k'+1) m=if(zeL m.pool x).2=0 then jG k' {m with pool:=(zeL m.pool x).1,offered:=m.offered+1} else {m with pool:=(zeL m.pool x).1} :=by
    rw [jG,hx]
   obtain⟨g,hva⟩:∃g,va=some ⟨g,0,none⟩:=by
    rcases hrow.form with⟨h,h0, -⟩|⟨g,cap,h, -⟩
    ·omega
    ·cases h;exact⟨g,rfl⟩
   subst hva;have hadd:=λW hW=>zgP pb m.pool (t++ [3]) ow' x W hW
   obtain⟨c0,c1,c2⟩:=Z1 hrow.src hx;have t1:decide ((m.offered:Int)<(m.acc.length:Int))=true:=by simpa using hlt
   have y0:(m.offered:Int)<(m.acc.length:Int):=by omega
   have y1:(0:Int)<=(m.offered:Int):=by omega
   obtain⟨⟨p',er⟩,hap⟩:∃q,zeL m.pool x=q:=⟨_,rfl⟩;rw [hap] at hadd hoN;obtain⟨⟨xi,xc⟩,xd⟩:=x;unfold vo at hadd;simp only at hadd c0 c1 c2 hoN;simp only [Nat.zero_add] at c0 c1 c2;replace hadd:=hid hadd;replace hx:=hid hx;replace hap:=hid hap;replace hoN:=hid hoN;replace hof:=hid hof;replace hmea:=hid hmea;replace hacc:=hid hacc;replace hrow:=hid hrow;go_wp2_with fail
   refine zd [O 0,O 1,O 2,O 3,O 4,O 5,O 6,O 7,O 8,O 9,O 10,O 11,O 12,O 13,O 14,O 15,O 16,O 17,O 18,O 19,O 20,O 21,O 22,O 23,O 24,E 25,O 26,O 27] none (λw'=>Blk w' B #[.pointer (some ⟨px,0,none⟩),.int .i64 m.id,.int .i64 m.version,.slice none 0 0,.pointer (some ⟨sb,0,none⟩),.pointer (some ⟨lb,0,none⟩),.pointer (some ⟨pb,0,none⟩),.slice (some ⟨g,0,none⟩) m.acc.length vc,.int .i64 (m.offered:Nat),.int .i64 (m.applied:Nat),.int .i64 m.wanted,.bool m.down] 98/\w'.cell? ⟨g,m.offered*3,none⟩=some (.int .i64 xi)/\w'.cell? ⟨g,m.offered*3+1,none⟩=some (.int .u32 xc)/\w'.cell? ⟨g,m.offered*3+2,none⟩=some (.string (bs xd))/\True) (by kernel_rfl) (by kernel_rfl) ⟨hB.drew,c0,c1,c2,trivial⟩ ?_
   (repeat (refine za (v:=?_) rfl rfl (λw' h=>?_) (λK k=>?_);rotate_left;obtain⟨f1,f2,f3,f4,_⟩:=h;have e1:=f1.cell;go_simp;(try with_reducible rfl);go_simp;refine k _ ?_;clear k K))
   refine zc rfl (λK hK=>?_);go_wp2_with fail
   refine(hadd.out _ ((jU.loc pb m.pool (t++ [3])).below hN.pool (zo (N2 _ _)))).mono ?_;rintro e w2⟨rfl,ow2,hs2,h2⟩;have hND:=(zx.loc B px sb lb pb _ m t).below hN (zo (N2 wr.heap.size wr));have kB2:=hND.blkS hs2;unfold zz at kB2;have hN2:=hND.setPool p' hs2 h2;obtain⟨c20,c21,c22⟩:=Z1 hN2.row.src hx.out;simp only [Nat.zero_add] at c20 c21 c22;go_wp2;refine hK.out _ _ (λ_=>⟨kB2,c20,c21,c22,trivial⟩) ?_;clear hK K c0 c1 c2 c20 c21 c22
   by_cases he:er=0
   ·have hoN':=hoN.out
    rw [if_pos he] at hoN';have t2:(er==0)=true:=by simp [he]
    replace he:=hid he;replace hoN':=hid hoN'
    (repeat (refine za (v:=?_) rfl rfl (λw' h=>?_) (λK k=>?_);rotate_left;obtain⟨f1,f2,f3,f4,_⟩:=h;have e1:=f1.cell;go_simp;(try with_reducible rfl);go_simp;refine k _ ?_;clear k K))
    refine ze ?_;have cB2:=kB2.cell;have fB2:=kB2.frozen;have lB2:=kB2.lt
    have hwo:IntKind.i64.wrap ((m.offered:Int)+1)=(m.offered:Int)+1:=by
     have h1:=hacc.out;have h2:m.acc.length<=536870912:=by rw [h1];exact hl
     rw [N8];omega
    go_wp2
    go_roundw
    case rel=>
     have hwo2:(m.offered:Int)+1=((m.offered+1:Nat):Int):=by omega
     rw [hwo2];have hq:=hN2.setOwn (W':=w2.setCell ⟨B,8,none⟩ (.int .i64 ((m.offered+1:Nat):Int))) {m with pool:=p',offered:=m.offered+1} ((Mod.refl (λk=>k=B) w2).thenSet (p:=⟨B,8,none⟩) rfl _) (kB2.set (o:=8) _) rfl rfl rfl rfl rfl rfl;exact⟨k',{m with pool:=p',offered:=m.offered+1},ow2,⟨_,_,_,_,_,hq.2⟩,hst.trans ((zq.drew t ow' wr).trans ((hs2.mono (Sub.child t 3)).trans hq.1)),hacc.out,hof.out.trans hoN'.out,by show n.acc.length<k'+(m.offered+1);omega⟩
    case measure=>
     have hwo2:(m.offered:Int)+1=((m.offered+1:Nat):Int):=by omega
     rw [hmea.out]
     have hm2:qy (.pointer (some ⟨B,0,none⟩)) 8 (w2.setCell ⟨B,8,none⟩ (.int .i64 ((m.offered+1:Nat):Int)))=.int .i64 ((m.offered+1:Nat):Int):=by
      show((w2.setCell ⟨B,8,none⟩ _).cell? ⟨B,8,none⟩).getD undef=_
      rw [(kB2.set (o:=8) _).cell 8];rfl
     rw [hwo2,hm2];simp only [intOf,Int.toNat_natCast];have:=hacc.out;rw [this] at hlt;omega
   ·have hoN':=hoN.out
    rw [if_neg he] at hoN';have t2:(er==0)=false:=by simp [he]
    replace he:=hid he;replace hoN':=hid hoN'
    (repeat (refine za (v:=?_) rfl rfl (λw' h=>?_) (λK k=>?_);rotate_left;obtain⟨f1,f2,f3,f4,_⟩:=h;have e1:=f1.cell;go_simp;(try with_reducible rfl);go_simp;refine k _ ?_;clear k K))
    refine ze ?_;go_wp2;go_end0
    rw [hof.out,hoN'.out];exact⟨rfl,ow2,hst.trans ((zq.drew t ow' wr).trans (hs2.mono (Sub.child t 3))),_,_,_,_,_,hN2⟩
  ·have hR:jG k m=m:=by
    cases k with
    |zero=>rfl
    |succ k=>rw [jG,List.getElem?_eq_none (by omega)]
   have t1:decide ((m.offered:Int)<(m.acc.length:Int))=false:=by simp;omega
   replace hrow:=hid hrow;replace hof:=hid hof;replace hmea:=hid hmea;replace hacc:=hid hacc;replace hR:=hid hR;go_wp2_with fail
   refine zd [O 0,O 1,O 2,O 3,O 4,O 5,O 6,O 7,O 8,O 9,O 10,O 11,O 12,O 13,O 14,O 15,O 16,O 17,O 18,O 19,O 20,O 21,O 22,O 23,O 24,E 25,O 26,O 27] none (λw'=>Blk w' B #[.pointer (some ⟨px,0,none⟩),.int .i64 m.id,.int .i64 m.version,.slice none 0 0,.pointer (some ⟨sb,0,none⟩),.pointer (some ⟨lb,0,none⟩),.pointer (some ⟨pb,0,none⟩),.slice va m.acc.length vc,.int .i64 (m.offered:Nat),.int .i64 (m.applied:Nat),.int .i64 m.wanted,.bool m.down] 98/\True) (by kernel_rfl) (by kernel_rfl) ⟨hB.drew,trivial⟩ ?_
   (repeat (refine za (v:=?_) rfl rfl (λw' h=>?_) (λK k=>?_);rotate_left;obtain⟨f1,f2,f3,f4,_⟩:=h;(try have e1:=f1.cell);(try have e2:=f2.cell);(try have e3:=f3.cell);(try have e4:=f4.cell);go_simp;(try with_reducible rfl);go_simp;refine k _ ?_;clear k K))
   (repeat (refine je rfl rfl (λK hK=>?_);go_simp;refine hK _ ?_;clear hK K))
   refine zc rfl (λK hK=>?_);go_wp2;refine hK.out _ _ (λ_=>⟨hB.drew,trivial⟩) ?_;clear hK K
   (repeat (refine za (v:=?_) rfl rfl (λw' h=>?_) (λK k=>?_);rotate_left;obtain⟨f1,f2,f3,f4,_⟩:=h;(try have e1:=f1.cell);(try have e2:=f2.cell);(try have e3:=f3.cell);(try have e4:=f4.cell);go_simp;(try with_reducible rfl);go_simp;refine k _ ?_;clear k K))
   (repeat (refine je rfl rfl (λK hK=>?_);go_simp;refine hK _ ?_;clear hK K))
   (repeat (refine za (v:=?_) rfl rfl (λw' h=>?_) (λK k=>?_);rotate_left;obtain⟨f1,f2,f3,f4,_⟩:=h;(try have e1:=f1.cell);(try have e2:=f2.cell);(try have e3:=f3.cell);(try have e4:=f4.cell);go_simp;(try with_reducible rfl);go_simp;refine k _ ?_;clear k K))
   refine ze ?_;go_wp2;go_end0
   rw [hof.out,hR.out];exact⟨rfl,ow',hst.trans (zq.drew t ow' wr),_,_,_,_,_,(zx.loc B px sb lb pb _ m t).below hN (zo (N2 wr.heap.size wr))⟩
