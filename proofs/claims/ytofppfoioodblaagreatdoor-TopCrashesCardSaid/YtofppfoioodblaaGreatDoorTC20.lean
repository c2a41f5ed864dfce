/- PARTS OF THE PROOF. -/
import Derived.Test.YtofppfoioodblaaGreatDoorTC18
import Derived.Test.YtofppfoioodblaaGreatDoorTC19
set_option maxRecDepth 8000
set_option maxHeartbeats 4000000
open Go.Proofs.Tryz
namespace Go.Proofs.YtofppfoioodblaaGreatDoor
section
open Go Go.RowKit Go.Shelf Go.Extern.Stop Go.Stop Go.Extern
attribute [local go_sem] Oper.semAt_some zB zp
def zz(px sb lb pb:Nat)(av:Value)(n:zr):Array Value:=
 #[.pointer (some ⟨px,0,none⟩),.int .i64 n.id,.int .i64 n.version,.slice none 0 0,.pointer (some ⟨sb,0,none⟩),.pointer (some ⟨lb,0,none⟩),.pointer (some ⟨pb,0,none⟩),av,.int .i64 (n.offered:Nat),.int .i64 (n.applied:Nat),.int .i64 n.wanted,.bool n.down]
structure zy(B px sb lb pb:Nat)(av:Value)(n:zr)(t:List Nat)(ow:Own)(W:World):Prop where
 blk:Blk W B (zz px sb lb pb av n) 98
 pax:yh px n.pax (t++ [0]) ow W
 st:jx sb n.store (t++ [1]) ow W
 lo:zK lb n.loc (t++ [2]) ow W
 pool:j5 pb n.pool (t++ [3]) ow W
 row:Row W 78 3 av n.acc.length (n.acc.flatMap zg)
 own:ow B=t
 rown:∀g,av.ownBlock=some g->ow g=t++ [4]
 bad:n.bad=[]
theorem zy.loc(B px sb lb pb:Nat)(av:Value)(n:zr)(t:List Nat):yI t (zy B px sb lb pb av n t):=by
 intro ow ow' W W' h hs hk;have kB:=hk B h.blk.lt (by rw [h.own];exact Sub.rfl' t);have kR:∀g,av.ownBlock=some g->ow' g=ow g/\W'.heap[g]?=W.heap[g]?:=λg hg=>hk g (h.row.lt hg) (by rw [h.rown g hg];exact Sub.child t 4)
 exact⟨h.blk.kept kB.2,yh.loc px n.pax (t++ [0]) _ _ _ _ h.pax hs (λk a b=>hk k a ((Sub.child t 0).trans b)),jx.loc sb n.store (t++ [1]) _ _ _ _ h.st hs (λk a b=>hk k a ((Sub.child t 1).trans b)),
  zK.loc lb n.loc (t++ [2]) _ _ _ _ h.lo hs (λk a b=>hk k a ((Sub.child t 2).trans b)),j5.loc pb n.pool (t++ [3]) _ _ _ _ h.pool hs (λk a b=>hk k a ((Sub.child t 3).trans b)),
  h.row.kept (λg hg=>(kR g hg).2),kB.1.trans h.own,λg hg=>(kR g hg).1.trans (h.rown g hg),h.bad⟩
def jF(B:Nat)(n:zr)(t:List Nat)(ow:Own)(W:World):Prop:=∃px sb lb pb av,zy B px sb lb pb av n t ow W
theorem jF.loc(B:Nat)(n:zr)(t:List Nat):yI t (jF B n t):=by
 rintro ow ow' W W'⟨px,sb,lb,pb,av,h⟩ hs hk;exact⟨px,sb,lb,pb,av,zy.loc B px sb lb pb av n t _ _ _ _ h hs hk⟩
theorem JU(t:List Nat){i j:Nat}(h:i≠j){u:List Nat}(hu:u=t++ [j]):¬Sub (t++ [i]) u:=by subst hu;exact(zS t h).1
theorem qU(t:List Nat)(i:Nat){u:List Nat}(hu:u=t):¬Sub (t++ [i]) u:=by subst hu;exact zU _ i
variable {B px sb lb pb:Nat}{av:Value}{n:zr}{t:List Nat}{ow ow':Own}{W W':World}
theorem zy.blkS(h:zy B px sb lb pb av n t ow W){i:Nat}(hs:zt (t++ [i]) ow W ow' W'):Blk W' B (zz px sb lb pb av n) 98:=h.blk.kept (hs.block h.blk.lt (qU t i h.own))
theorem zy.rowS(h:zy B px sb lb pb av n t ow W){i:Nat}(hi:i≠4)(hs:zt (t++ [i]) ow W ow' W'):Row W' 78 3 av n.acc.length (n.acc.flatMap zg):=h.row.kept (λg hg=>hs.block (h.row.lt hg) (JU t hi (h.rown g hg)))
theorem zy.ownS(h:zy B px sb lb pb av n t ow W){i:Nat}(hs:zt (t++ [i]) ow W ow' W'):ow' B=t:=(hs.agree B h.blk.lt).trans h.own
theorem zy.rownS(h:zy B px sb lb pb av n t ow W){i:Nat}(hs:zt (t++ [i]) ow W ow' W'):∀g,av.ownBlock=some g->ow' g=t++ [4]:=λg hg=>(hs.agree g (h.row.lt hg)).trans (h.rown g hg)
theorem zy.setPax(h:zy B px sb lb pb av n t ow W)(p:xH)(hs:zt (t++ [0]) ow W ow' W')(hp:yh px p (t++ [0]) ow' W'):zy B px sb lb pb av {n with pax:=p} t ow' W':=
 ⟨h.blkS hs,hp,(jx.loc _ _ _).step h.st hs (zS t (by decide)),(zK.loc _ _ _).step h.lo hs (zS t (by decide)),(j5.loc _ _ _).step h.pool hs (zS t (by decide)),h.rowS (by decide) hs,h.ownS hs,h.rownS hs,h.bad⟩
theorem zy.setStore(h:zy B px sb lb pb av n t ow W)(s:yl)(hs:zt (t++ [1]) ow W ow' W')(hp:jx sb s (t++ [1]) ow' W'):zy B px sb lb pb av {n with store:=s} t ow' W':=
 ⟨h.blkS hs,(yh.loc _ _ _).step h.pax hs (zS t (by decide)),hp,(zK.loc _ _ _).step h.lo hs (zS t (by decide)),(j5.loc _ _ _).step h.pool hs (zS t (by decide)),h.rowS (by decide) hs,h.ownS hs,h.rownS hs,h.bad⟩
theorem zy.setLocal(h:zy B px sb lb pb av n t ow W)(L:zP)(hs:zt (t++ [2]) ow W ow' W')(hp:zK lb L (t++ [2]) ow' W'):zy B px sb lb pb av {n with loc:=L} t ow' W':=
 ⟨h.blkS hs,(yh.loc _ _ _).step h.pax hs (zS t (by decide)),(jx.loc _ _ _).step h.st hs (zS t (by decide)),hp,(j5.loc _ _ _).step h.pool hs (zS t (by decide)),h.rowS (by decide) hs,h.ownS hs,h.rownS hs,h.bad⟩
theorem zy.setPool(h:zy B px sb lb pb av n t ow W)(p:xr)(hs:zt (t++ [3]) ow W ow' W')(hp:j5 pb p (t++ [3]) ow' W'):zy B px sb lb pb av {n with pool:=p} t ow' W':=
 ⟨h.blkS hs,(yh.loc _ _ _).step h.pax hs (zS t (by decide)),(jx.loc _ _ _).step h.st hs (zS t (by decide)),(zK.loc _ _ _).step h.lo hs (zS t (by decide)),hp,h.rowS (by decide) hs,h.ownS hs,h.rownS hs,h.bad⟩
theorem zy.setOwn(h:zy B px sb lb pb av n t ow W)(m:zr)(hM:Mod (λk=>k=B) W W')(hB:Blk W' B (zz px sb lb pb av m) 98)(e1:m.pax=n.pax)(e2:m.store=n.store)(e3:m.loc=n.loc)(e4:m.pool=n.pool)(e5:m.acc=n.acc)(e6:m.bad=n.bad):
 zt t ow W ow W'/\zy B px sb lb pb av m t ow W':=by
 have hk:∀(i:Nat)(k:Nat),k<W.heap.size->Sub (t++ [i]) (ow k)->ow k=ow k/\W'.heap[k]?=W.heap[k]?:=λi k hk hs=>⟨rfl,hM.block k hk (λe=>by subst e;rw [h.own] at hs;exact zU t i hs)⟩
 refine⟨⟨hM.mono (λk _ e=>by subst e;rw [h.own];exact Sub.rfl' _),λ_ _=>rfl⟩,hB,?_,?_,?_,?_,?_,h.own,h.rown,e6.trans h.bad⟩
 ·rw [e1];exact yh.loc _ _ _ _ _ _ _ h.pax hM.size (hk 0)
 ·rw [e2];exact jx.loc _ _ _ _ _ _ _ h.st hM.size (hk 1)
 ·rw [e3];exact zK.loc _ _ _ _ _ _ _ h.lo hM.size (hk 2)
 ·rw [e4];exact j5.loc _ _ _ _ _ _ _ h.pool hM.size (hk 3)
 rw [e5];exact h.row.mod hM (λg hg e=>h.row.ne_blk h.blk (by decide) hg e)
def vu(B:Nat)(n:zr)(t:List Nat)(ow:Own)(w:World)(v:Value)(e:Ending)(w':World):Prop:=
 e=.returned v/\∃ow',zt t ow w ow' w'/\jF B n t ow' w'
theorem XU(a:Addr)(w:World):(binOp .eql 95 (.pointer (some a)) (.pointer none)).run prog w=.ok (.bool false) w:=by kernel_rfl
theorem Jb(w:World)(hB:Blk w B (zz px sb lb pb av n) 98):Calls prog 37 #[.pointer (some ⟨B,0,none⟩)] w λe w'=>e=.returned (.bool false)/\w'=w:=by
 unfold zz at hB;have e0:=hB.cell;have h0:=XU ⟨sb,0,none⟩ w
 go_enter func37,ntmps37
 go_wp2;go_ret
 exact⟨rfl,rfl⟩
theorem vw(w:World)(hB:Blk w B (zz px sb lb pb av n) 98):Calls prog 90 #[.pointer (some ⟨B,0,none⟩)] w λe w'=>e=.returned (.int .i64 (ZJ n))/\w'=w:=by
 have hn:=Jb w hB;unfold zz at hB;have e0:=hB.cell;unfold ZJ;replace hn:=hid hn
 cases hd:n.down
 all_goals
  rw [hd] at e0;replace hd:=hid hd;replace hB:=hid hB
  go_enter func90,ntmps90
  go_wp2_with (go_at_call 37;refine hn.out.mono ?_;rintro e w1 ⟨rfl,aa⟩;obtain rfl:=aa.symm)
  go_ret
  exact⟨rfl,rfl⟩
theorem Zn(w:World)(h:zy B px sb lb pb av n t ow w)(hl:n.acc.length<=1073741824):Calls prog 17 #[.pointer (some ⟨B,0,none⟩)] w λe w'=>
 ∃v',e=.returned v'/\Row w' 78 3 v' n.acc.length (n.acc.flatMap zg)/\Below w.heap.size w w'/\(∀g,v'.ownBlock=some g->w.heap.size<=g):=by
 have hB:=h.blk;have hn:=Jb w hB;have hc:=Xa av n.acc w h.row.src hl;unfold zz at hB;have e0:=hB.cell;replace hn:=hid hn;replace hc:=hid hc;clear h hB
 go_enter func17,ntmps17
 go_wp2_with (first
  |(go_at_call 37;refine hn.out.mono ?_;rintro e w1 ⟨rfl,aa⟩;obtain rfl:=aa.symm)
  |(go_at_call 38;refine hc.out.mono ?_;rintro e w2 ⟨v',rfl,h1,h2,h3⟩;replace h3:Hid (∀_,_):=h3))
 go_ret
 exact⟨_,rfl,h1,h2,h3.out⟩
theorem Y7(w:World)(hB:Blk w B (zz px sb lb pb av n) 98):Calls prog 21 #[.pointer (some ⟨B,0,none⟩)] w λe w'=>e=.returned (.pointer (some ⟨lb,0,none⟩))/\w'=w:=by
 have hn:=Jb w hB;unfold zz at hB;have e0:=hB.cell;replace hn:=hid hn;replace hB:=hid hB
 go_enter func21,ntmps21
 go_wp2_with (go_at_call 37;refine hn.out.mono ?_;rintro e w1 ⟨rfl,aa⟩;obtain rfl:=aa.symm)
 go_ret
 exact⟨rfl,rfl⟩
theorem zgD(w:World)(h:zy B px sb lb pb av n t ow w):Calls prog 58 #[.pointer (some ⟨B,0,none⟩)] w (vu B (vU n).1 t ow w (.int .i64 (vU n).2)):=by
 have hB:=h.blk;have hr:=vw w hB;have hw:=λm W'=>h.setOwn (W':=W') m
 have h0:jF B n t ow w:=⟨_,_,_,_,_,h⟩;unfold zz at hB hw;have e0:=hB.cell;have f0:=hB.frozen;have l0:=hB.lt;unfold vU ZJ at*;replace hB:=hid hB;replace h0:=hid h0;replace hw:=hid hw
 cases hd:n.down
 ·rw [hd] at hr
  replace hr:=hid hr;clear h;rw [if_neg (by simp)];replace hd:=hid hd
  go_enter func58,ntmps58
  go_wp2_with (go_at_call 90;refine hr.out.mono ?_;rintro e w1 ⟨rfl,aa⟩;obtain rfl:=aa.symm)
  go_ret
  have hq:=hw.out {n with down:=true} (w.setCell ⟨B,11,none⟩ (.bool true)) ((Mod.refl (λk=>k=B) w).thenSet (p:=⟨B,11,none⟩) rfl _) (hB.out.set (o:=11) _) rfl rfl rfl rfl rfl rfl;exact⟨rfl,ow,hq.1,_,_,_,_,_,hq.2⟩
 rw [hd] at hr
 replace hr:=hid hr;clear h;rw [if_pos rfl];replace hd:=hid hd
 go_enter func58,ntmps58
 go_wp2_with (go_at_call 90;refine hr.out.mono ?_;rintro e w1 ⟨rfl,aa⟩;obtain rfl:=aa.symm)
 go_ret
 exact⟨rfl,ow,zt.refl _ _ _,h0.out⟩
theorem zku(k:Int)(w:World)(h:zy B px sb lb pb av n t ow w):Calls prog 60 #[.pointer (some ⟨B,0,none⟩),.int .i64 k] w (vu B (J4 n k).1 t ow w (.int .i64 (J4 n k).2)):=by
 have hB:=h.blk;have hr:=vw w hB;have hc:=ziv sb n.store (t++ [1]) ow k w h.st;have h0:jF B n t ow w:=⟨_,_,_,_,_,h⟩;unfold zz at hB;have e0:=hB.cell;unfold J4;unfold ZJ at hr;replace hB:=hid hB;replace h0:=hid h0;replace hc:=hid hc
 by_cases hd:n.down=false
 ·rw [hd] at hr
  replace hr:=hid hr;rw [if_neg (by simp [hd])];replace hd:=hid hd
  go_enter func60,ntmps60
  go_wp2_with fail
  refine hr.out.mono ?_;rintro e w1⟨rfl,aa⟩;obtain rfl:=aa.symm;go_wp2_with fail
  refine hc.out.mono ?_;rintro e w2⟨rfl,ad,ac,h2⟩;go_wp2;go_ret
  exact⟨rfl,ad,ac.mono (Sub.child t 1),_,_,_,_,_,h.setStore _ ac h2⟩
 have hd:n.down=true:=by simpa using hd
 rw [hd] at hr;replace hr:=hid hr;rw [if_pos hd];replace hd:=hid hd
 go_enter func60,ntmps60
 go_wp2_with fail
 refine hr.out.mono ?_;rintro e w1⟨rfl,aa⟩;obtain rfl:=aa.symm;go_wp2;go_ret
 exact⟨rfl,ow,zt.refl _ _ _,h0.out⟩
end
open Go Go.RowKit Go.Shelf Go.Extern.Stop Go.Stop Go.Extern
attribute [local go_sem] Oper.semAt_some zB zp
theorem xy(B:Nat)(b:Bool)(w:World):Calls prog 93 #[.pointer (some ⟨B,0,none⟩),.bool b] w λe w'=>
 e=.returned (.func (.func 136) #[] #[.pointer (some ⟨w.heap.size,0,none⟩),.pointer (some ⟨w.heap.size+1,0,none⟩)])/\w'=(w.alloc (.cells #[.pointer (some ⟨B,0,none⟩)] 43)).alloc (.cells #[.bool b] 4):=by
 go_enter func93,ntmps93
 go_wp2;go_ret
 exact⟨rfl,rfl⟩
theorem zaZ:∀(l:List (List UInt8)),Lib.join l []=l.flatten
 | []=>by simp [Lib.join,List.intercalate]
 | [x]=>by simp [Lib.join,List.intercalate]
 |x::y::l=>by
  have ih:=zaZ (y::l);simp only [Lib.join,List.intercalate,List.intersperse_cons_cons,List.flatten_cons,List.nil_append] at*;rw [ih]
theorem zco(v:Value)(ts:List (List UInt8))(w:World)(hv:Src w v 1 ts.length (yR ts))(h0:0<ts.length)(hn:ts.length<=1000)(hl:ts.flatten.length<=1073741824):
 Calls prog 138 #[v,.string ⟨#[]⟩] w λe w'=>e=.returned (.string (bs ts.flatten))/\Below w.heap.size w w':=by
 rcases hv.2 with⟨rfl,hz⟩|⟨b,off,cap,rfl,hc,hr⟩
 ·omega
 have hb:b<w.heap.size:=jO (hr 0 _ (by simp [yR];exact⟨_,N3 h0,rfl⟩))
 have hm:(ts.map bs).map (λs:ByteArray=>s.data.toList)=ts:=by rw [List.map_map];exact(List.map_congr_left (λx _=>qZ x)).trans (List.map_id _)
 have hj:=Tryz.strings_Join b off cap (ts.map bs) ⟨#[]⟩ w (λj t hz=>by
  obtain⟨x,hx,rfl⟩:∃x,ts[j]?=some x/\bs x=t:=by simpa using hz
  exact hr j _ (by simp [yR,hx])) hb (by simp;omega) (by simpa using hc) (by
   rw [hm];show(Lib.join ts []).length<=_;rw [zaZ];omega)
 rw [hm,show Lib.join ts (ByteArray.mk #[]).data.toList=ts.flatten from zaZ ts,List.length_map] at hj;exact hj
theorem zkv(B:Nat)(n:zr)(t:List Nat)(ow:Own)(b:Bool)(kb kc:Nat)(v:Value)(ts:List (List UInt8))(w:World)(h:jF B n t ow w)(hcap:vP n.store)(k0:Blk w kb #[.pointer (some ⟨B,0,none⟩)] 43)(k1:Blk w kc #[.bool b] 4)
 (ho0:ow kb=[]) (ho1:ow kc=[]) (hv:Src w v 1 ts.length (yR ts)) (h0:0<ts.length) (hn:ts.length<=1000) (hl:ts.flatten.length<=1073741000):
 Calls prog 136 #[v,.pointer (some ⟨kb,0,none⟩),.pointer (some ⟨kc,0,none⟩)] w (vu B (j7 n b ts.flatten).1 t ow w (.int .i64 (j7 n b ts.flatten).2)):=by
 obtain⟨px,sb,lb,pb,av,hN⟩:=h;have af:=λW hW=>zco v ts W hW h0 hn (by omega)
 have ak:=λW hW=>zdY sb n.store (t++ [1]) ow ts.flatten W hW hcap hl
 have hB:=hN.blk;have au:j7 n b ts.flatten=({n with store:=(zT n.store ts.flatten).1,down:=n.down||decide ((zT n.store ts.flatten).2=31)||(b && decide ((zT n.store ts.flatten).2≠0))},(zT n.store ts.flatten).2):=rfl
 generalize ts.flatten=d at*
 obtain⟨⟨s',er⟩,hw⟩:∃x,zT n.store d=x:=⟨_,rfl⟩;rw [hw] at ak au;simp only at ak au;rw [au];simp only
 obtain⟨va,vn,vc,rfl⟩:∃a n c,v=.slice a n c:=by
  rcases hv.2 with⟨rfl, -⟩|⟨b,off,cap,rfl, -⟩
  ·exact⟨_,_,_,rfl⟩
  exact⟨_,_,_,rfl⟩
 unfold zz at hB;replace af:=hid af;replace ak:=hid ak;replace au:=hid au;replace hw:=hid hw
 by_cases h31:er=31
 ·have t1:(er==31)=true:=by simp [h31]
  rw [show(n.down||decide (er=31)||(b && decide (er≠0)))=true by simp [h31]];replace h31:=hid h31
  go_enter func136,ntmps136
  go_wp2_with fail
  refine zd [O 0,O 1,O 2,O 3,O 4,E 5,E 6,O 7] none (λw'=>Blk w' kb #[.pointer (some ⟨B,0,none⟩)] 43/\Blk w' B #[.pointer (some ⟨px,0,none⟩),.int .i64 n.id,.int .i64 n.version,.slice none 0 0,.pointer (some ⟨sb,0,none⟩),.pointer (some ⟨lb,0,none⟩),.pointer (some ⟨pb,0,none⟩),av,.int .i64 (n.offered:Nat),.int .i64 (n.applied:Nat),.int .i64 n.wanted,.bool n.down] 98/\True) ⟨k0.drew,hB.drew,trivial⟩ ?_
  refine Wd ?_
  refine zc rfl (λK hK=>?_);go_wp2_with fail
  refine(af.out _ (hv.below (pbx))).mono ?_;rintro e w1⟨rfl,a0⟩;have aa:Below w.heap.size w w1:=pbx;have ah:=k0.call aa;have ao:=hB.call aa;go_wp2;refine hK.out _ _ (λ_=>⟨ah,ao,trivial⟩) ?_;clear hK K;have ag:=(zy.loc B px sb lb pb av n t).below hN aa;have aq:=k0.lt;have an:=k1.lt;refine zc rfl (λK hK=>?_);go_wp2_with fail
  refine(ak.out _ ag.st).mono ?_;rintro e w2⟨rfl,ai,ae,h2⟩;have ax:=aa.size;have al:¬Sub (t++ [1]) (ow kb):=by rw [ho0];exact zj (by simp)
  have ar:¬Sub (t++ [1]) (ow kc):=by rw [ho1];exact zj (by simp)
  have aj:=ah.kept (ae.block ah.lt al);have am:=(k1.call aa).kept (ae.block (k1.call aa).lt ar);have ad:=ag.blkS ae;have ap:=ag.setStore s' ae h2;have ac:zt t ow w ai w2:=(zt.of_below t ow aa).trans (ae.mono (Sub.child t 1));unfold zz at ad;go_wp2;refine hK.out _ _ (λ_=>⟨aj,ad,trivial⟩) ?_;clear hK K
  refine Wd ?_
  refine ze ?_;have a2:=aj.cell;have a1:=am.cell;have aw:=ad.cell;have az:=ad.frozen;have ay:=ad.lt;go_wp2;go_ret
  have hq:=ap.setOwn (W':=w2.setCell ⟨B,11,none⟩ (.bool true)) {n with store:=s',down:=true} ((Mod.refl (λk=>k=B) w2).thenSet (p:=⟨B,11,none⟩) rfl _) (ad.set (o:=11) _) rfl rfl rfl rfl rfl rfl;exact⟨rfl,ai,ac.trans hq.1,_,_,_,_,_,hq.2⟩
 have t1:(er==31)=false:=by simp [h31]
 rw [show decide (er=31)=false by simpa using h31,Bool.or_false];replace h31:=hid h31
 cases b
 ·rw [Bool.false_and,Bool.or_false]
  go_enter func136,ntmps136
  go_wp2_with fail
  refine zd [O 0,O 1,O 2,O 3,O 4,E 5,E 6,O 7] none (λw'=>Blk w' kb #[.pointer (some ⟨B,0,none⟩)] 43/\Blk w' B #[.pointer (some ⟨px,0,none⟩),.int .i64 n.id,.int .i64 n.version,.slice none 0 0,.pointer (some ⟨sb,0,none⟩),.pointer (some ⟨lb,0,none⟩),.pointer (some ⟨pb,0,none⟩),av,.int .i64 (n.offered:Nat),.int .i64 (n.applied:Nat),.int .i64 n.wanted,.bool n.down] 98/\True) ⟨k0.drew,hB.drew,trivial⟩ ?_
  refine Wd ?_
  refine zc rfl (λK hK=>?_);go_wp2_with fail
  refine(af.out _ (hv.below (pbx))).mono ?_;rintro e w1⟨rfl,a0⟩;have aa:Below w.heap.size w w1:=pbx;have ah:=k0.call aa;have ao:=hB.call aa;go_wp2;refine hK.out _ _ (λ_=>⟨ah,ao,trivial⟩) ?_;clear hK K;have ag:=(zy.loc B px sb lb pb av n t).below hN aa;have aq:=k0.lt;have an:=k1.lt;refine zc rfl (λK hK=>?_);go_wp2_with fail
  refine(ak.out _ ag.st).mono ?_;rintro e w2⟨rfl,ai,ae,h2⟩;have ax:=aa.size;have al:¬Sub (t++ [1]) (ow kb):=by rw [ho0];exact zj (by simp)
  have ar:¬Sub (t++ [1]) (ow kc):=by rw [ho1];exact zj (by simp)
  have aj:=ah.kept (ae.block ah.lt al);have am:=(k1.call aa).kept (ae.block (k1.call aa).lt ar);have ad:=ag.blkS ae;have ap:=ag.setStore s' ae h2;have ac:zt t ow w ai w2:=(zt.of_below t ow aa).trans (ae.mono (Sub.child t 1));unfold zz at ad;go_wp2;refine hK.out _ _ (λ_=>⟨aj,ad,trivial⟩) ?_;clear hK K
  refine Wd ?_
  refine ze ?_;have a2:=aj.cell;have a1:=am.cell;have aw:=ad.cell;have az:=ad.frozen;have ay:=ad.lt;go_wp2;go_ret
  exact⟨rfl,ai,ac,_,_,_,_,_,ap⟩
 rw [Bool.true_and]
 by_cases he:er=0
 ·have t2:(er !=0)=false:=by simp [he]
  rw [show decide (er≠0)=false by simp [he],Bool.or_false];replace he:=hid he
  go_enter func136,ntmps136
  go_wp2_with fail
  refine zd [O 0,O 1,O 2,O 3,O 4,E 5,E 6,O 7] none (λw'=>Blk w' kb #[.pointer (some ⟨B,0,none⟩)] 43/\Blk w' B #[.pointer (some ⟨px,0,none⟩),.int .i64 n.id,.int .i64 n.version,.slice none 0 0,.pointer (some ⟨sb,0,none⟩),.pointer (some ⟨lb,0,none⟩),.pointer (some ⟨pb,0,none⟩),av,.int .i64 (n.offered:Nat),.int .i64 (n.applied:Nat),.int .i64 n.wanted,.bool n.down] 98/\True) ⟨k0.drew,hB.drew,trivial⟩ ?_
  refine Wd ?_
  refine zc rfl (λK hK=>?_);go_wp2_with fail
  refine(af.out _ (hv.below (pbx))).mono ?_;rintro e w1⟨rfl,a0⟩;have aa:Below w.heap.size w w1:=pbx;have ah:=k0.call aa;have ao:=hB.call aa;go_wp2;refine hK.out _ _ (λ_=>⟨ah,ao,trivial⟩) ?_;clear hK K;have ag:=(zy.loc B px sb lb pb av n t).below hN aa;have aq:=k0.lt;have an:=k1.lt;refine zc rfl (λK hK=>?_);go_wp2_with fail
  refine(ak.out _ ag.st).mono ?_;rintro e w2⟨rfl,ai,ae,h2⟩;have ax:=aa.size;have al:¬Sub (t++ [1]) (ow kb):=by rw [ho0];exact zj (by simp)
  have ar:¬Sub (t++ [1]) (ow kc):=by rw [ho1];exact zj (by simp)
  have aj:=ah.kept (ae.block ah.lt al);have am:=(k1.call aa).kept (ae.block (k1.call aa).lt ar);have ad:=ag.blkS ae;have ap:=ag.setStore s' ae h2;have ac:zt t ow w ai w2:=(zt.of_below t ow aa).trans (ae.mono (Sub.child t 1));unfold zz at ad;go_wp2;refine hK.out _ _ (λ_=>⟨aj,ad,trivial⟩) ?_;clear hK K
  refine Wd ?_
  refine ze ?_;have a2:=aj.cell;have a1:=am.cell;have aw:=ad.cell;have az:=ad.frozen;have ay:=ad.lt;go_wp2;go_ret
  exact⟨rfl,ai,ac,_,_,_,_,_,ap⟩
 have t2:(er !=0)=true:=by simpa using he
 rw [show decide (er≠0)=true by simp [he],Bool.or_true];replace he:=hid he
 go_enter func136,ntmps136
 go_wp2_with fail
 refine zd [O 0,O 1,O 2,O 3,O 4,E 5,E 6,O 7] none (λw'=>Blk w' kb #[.pointer (some ⟨B,0,none⟩)] 43/\Blk w' B #[.pointer (some ⟨px,0,none⟩),.int .i64 n.id,.int .i64 n.version,.slice none 0 0,.pointer (some ⟨sb,0,none⟩),.pointer (some ⟨lb,0,none⟩),.pointer (some ⟨pb,0,none⟩),av,.int .i64 (n.offered:Nat),.int .i64 (n.applied:Nat),.int .i64 n.wanted,.bool n.down] 98/\True) ⟨k0.drew,hB.drew,trivial⟩ ?_
 refine Wd ?_
 refine zc rfl (λK hK=>?_);go_wp2_with fail
 refine(af.out _ (hv.below (pbx))).mono ?_;rintro e w1⟨rfl,a0⟩;have aa:Below w.heap.size w w1:=pbx;have ah:=k0.call aa;have ao:=hB.call aa;go_wp2;refine hK.out _ _ (λ_=>⟨ah,ao,trivial⟩) ?_;clear hK K;have ag:=(zy.loc B px sb lb pb av n t).below hN aa;have aq:=k0.lt;have an:=k1.lt;refine zc rfl (λK hK=>?_);go_wp2_with fail
 refine(ak.out _ ag.st).mono ?_;rintro e w2⟨rfl,ai,ae,h2⟩;have ax:=aa.size;have al:¬Sub (t++ [1]) (ow kb):=by rw [ho0];exact zj (by simp)
 have ar:¬Sub (t++ [1]) (ow kc):=by rw [ho1];exact zj (by simp)
 have aj:=ah.kept (ae.block ah.lt al);have am:=(k1.call aa).kept (ae.block (k1.call aa).lt ar);have ad:=ag.blkS ae;have ap:=ag.setStore s' ae h2;have ac:zt t ow w ai w2:=(zt.of_below t ow aa).trans (ae.mono (Sub.child t 1));unfold zz at ad;go_wp2;refine hK.out _ _ (λ_=>⟨aj,ad,trivial⟩) ?_;clear hK K
 refine Wd ?_
 refine ze ?_;have a2:=aj.cell;have a1:=am.cell;have aw:=ad.cell;have az:=ad.frozen;have ay:=ad.lt;go_wp2;go_ret
 have hq:=ap.setOwn (W':=w2.setCell ⟨B,11,none⟩ (.bool true)) {n with store:=s',down:=true} ((Mod.refl (λk=>k=B) w2).thenSet (p:=⟨B,11,none⟩) rfl _) (ad.set (o:=11) _) rfl rfl rfl rfl rfl rfl;exact⟨rfl,ai,ac.trans hq.1,_,_,_,_,_,hq.2⟩
theorem Jc(B:Nat)(n:zr)(t:List Nat)(ow:Own)(w:World)(h:jF B n t ow w)(hl:n.acc.length<=536870912):
 Calls prog 94 #[.pointer (some ⟨B,0,none⟩)] w (vu B (jE (n.acc.length+1) n) t ow w (.tuple #[])):=by
 go_enter func94,ntmps94
 go_wp2
 go_loopw [2] (λ_ wr=>∃(k:Nat)(m:zr)(ow':Own),jF B m t ow' wr/\zt t ow w ow' wr/\m.acc=n.acc/\jE (n.acc.length+1) n=jE k m/\n.acc.length<k+m.offered) (λ_ wr=>n.acc.length - (intOf (Za (.pointer (some ⟨B,0,none⟩)) 8 wr)).toNat)
 case atStart=>exact⟨_,n,ow,h,zt.refl _ _ _,rfl,rfl,by omega⟩
 case round=>
  obtain⟨k,m,ow',⟨px,sb,lb,pb,av,hN⟩,al,ac,ah,hk⟩:=hrel;have hB:=hN.blk;have af:Za (.pointer (some ⟨B,0,none⟩)) 8 wr=.int .i64 (m.offered:Nat):=by show(wr.cell? ⟨B,8,none⟩).getD undef=_;rw [hB.cell 8];rfl
  have ad:=hN.row;unfold zz at hB;obtain⟨va,vc,aw⟩:=ad.src.shape;subst aw
  by_cases hlt:m.offered<m.acc.length
  ·obtain⟨x,hx⟩:∃x,m.acc[m.offered]?=some x:=⟨_,N3 hlt⟩
   obtain⟨k',rfl⟩:∃k',k=k'+1:=⟨k - 1,by rw [ac] at hlt;omega⟩
   have aj:jE (k'+1) m=if(zdB m.pool x).2=0 then jE k' {m with pool:=(zdB m.pool x).1,offered:=m.offered+1} else {m with pool:=(zdB m.pool x).1} :=by
    rw [jE,hx]
   obtain⟨g,ay⟩:∃g,va=some ⟨g,0,none⟩:=by
    rcases ad.form with⟨h,h0, -⟩|⟨g,cap,h, -⟩
    ·omega
    cases h;exact⟨g,rfl⟩
   subst ay;have ae:=λW hW=>zij pb m.pool (t++ [3]) ow' x W hW
   obtain⟨c0,c1,c2⟩:=Zk ad.src hx;have t1:decide ((m.offered:Int)<(m.acc.length:Int))=true:=by simpa using hlt
   have y0:(m.offered:Int)<(m.acc.length:Int):=by omega
   have y1:(0:Int)<=(m.offered:Int):=by omega
   obtain⟨⟨p',er⟩,ao⟩:∃q,zdB m.pool x=q:=⟨_,rfl⟩;rw [ao] at ae aj;obtain⟨⟨xi,xc⟩,xd⟩:=x;unfold y7 at ae;simp only at ae c0 c1 c2 aj;simp only [Nat.zero_add] at c0 c1 c2;replace ae:=hid ae;replace hx:=hid hx;replace ao:=hid ao;replace aj:=hid aj;replace ah:=hid ah;replace af:=hid af;replace ac:=hid ac;replace ad:=hid ad;go_wp2_with fail
   refine zd [O 0,O 1,O 2,O 3,O 4,O 5,O 6,O 7,O 8,O 9,O 10,O 11,O 12,O 13,O 14,O 15,O 16,O 17,O 18,O 19,O 20,O 21,O 22,O 23,O 24,E 25,O 26,O 27] none (λw'=>Blk w' B #[.pointer (some ⟨px,0,none⟩),.int .i64 m.id,.int .i64 m.version,.slice none 0 0,.pointer (some ⟨sb,0,none⟩),.pointer (some ⟨lb,0,none⟩),.pointer (some ⟨pb,0,none⟩),.slice (some ⟨g,0,none⟩) m.acc.length vc,.int .i64 (m.offered:Nat),.int .i64 (m.applied:Nat),.int .i64 m.wanted,.bool m.down] 98/\w'.cell? ⟨g,m.offered*3,none⟩=some (.int .i64 xi)/\w'.cell? ⟨g,m.offered*3+1,none⟩=some (.int .u32 xc)/\w'.cell? ⟨g,m.offered*3+2,none⟩=some (.string (bs xd))/\True) ⟨hB.drew,c0,c1,c2,trivial⟩ ?_
   refine Wq ?_
   refine zc rfl (λK hK=>?_);go_wp2_with fail
   refine(ae.out _ ((j5.loc pb m.pool (t++ [3])).below hN.pool (zq (N2 _ _)))).mono ?_;rintro e w2⟨rfl,ar,ak,h2⟩;have au:=(zy.loc B px sb lb pb _ m t).below hN (zq (N2 wr.heap.size wr));have ai:=au.blkS ak;unfold zz at ai;have ap:=au.setPool p' ak h2;obtain⟨aq,am,an⟩:=Zk ap.row.src hx.out;simp only [Nat.zero_add] at aq am an;go_wp2;refine hK.out _ _ (λ_=>⟨ai,aq,am,an,trivial⟩) ?_;clear hK K c0 c1 c2 aq am an
   by_cases he:er=0
   ·have aa:=aj.out
    rw [if_pos he] at aa;have t2:(er==0)=true:=by simp [he]
    replace he:=hid he;replace aa:=hid aa
    refine Wq ?_
    refine ze ?_;have a0:=ai.cell;have a2:=ai.frozen;have a1:=ai.lt
    have az:IntKind.i64.wrap ((m.offered:Int)+1)=(m.offered:Int)+1:=by
     have h1:=ac.out;have h2:m.acc.length<=536870912:=by rw [h1];exact hl
     rw [N8];omega
    go_wp2
    go_roundw
    case rel=>
     have ag:(m.offered:Int)+1=((m.offered+1:Nat):Int):=by omega
     rw [ag];have hq:=ap.setOwn (W':=w2.setCell ⟨B,8,none⟩ (.int .i64 ((m.offered+1:Nat):Int))) {m with pool:=p',offered:=m.offered+1} ((Mod.refl (λk=>k=B) w2).thenSet (p:=⟨B,8,none⟩) rfl _) (ai.set (o:=8) _) rfl rfl rfl rfl rfl rfl;exact⟨k',{m with pool:=p',offered:=m.offered+1},ar,⟨_,_,_,_,_,hq.2⟩,al.trans ((zt.drew t ow' wr).trans ((ak.mono (Sub.child t 3)).trans hq.1)),ac.out,ah.out.trans aa.out,by show n.acc.length<k'+(m.offered+1);omega⟩
    case measure=>
     have ag:(m.offered:Int)+1=((m.offered+1:Nat):Int):=by omega
     rw [af.out]
     have ax:Za (.pointer (some ⟨B,0,none⟩)) 8 (w2.setCell ⟨B,8,none⟩ (.int .i64 ((m.offered+1:Nat):Int)))=.int .i64 ((m.offered+1:Nat):Int):=by
      show((w2.setCell ⟨B,8,none⟩ _).cell? ⟨B,8,none⟩).getD undef=_
      rw [(ai.set (o:=8) _).cell 8];rfl
     rw [ag,ax];simp only [intOf,Int.toNat_natCast];have:=ac.out;rw [this] at hlt;omega
   have aa:=aj.out
   rw [if_neg he] at aa;have t2:(er==0)=false:=by simp [he]
   replace he:=hid he;replace aa:=hid aa
   refine Wq ?_
   refine ze ?_;go_wp2;go_end0
   rw [ah.out,aa.out];exact⟨rfl,ar,al.trans ((zt.drew t ow' wr).trans (ak.mono (Sub.child t 3))),_,_,_,_,_,ap⟩
  have hR:jE k m=m:=by
   cases k with
   |zero=>rfl
   |succ k=>rw [jE,List.getElem?_eq_none (by omega)]
  have t1:decide ((m.offered:Int)<(m.acc.length:Int))=false:=by simp;omega
  replace ad:=hid ad;replace ah:=hid ah;replace af:=hid af;replace ac:=hid ac;replace hR:=hid hR;go_wp2_with fail
  refine zd [O 0,O 1,O 2,O 3,O 4,O 5,O 6,O 7,O 8,O 9,O 10,O 11,O 12,O 13,O 14,O 15,O 16,O 17,O 18,O 19,O 20,O 21,O 22,O 23,O 24,E 25,O 26,O 27] none (λw'=>Blk w' B #[.pointer (some ⟨px,0,none⟩),.int .i64 m.id,.int .i64 m.version,.slice none 0 0,.pointer (some ⟨sb,0,none⟩),.pointer (some ⟨lb,0,none⟩),.pointer (some ⟨pb,0,none⟩),.slice va m.acc.length vc,.int .i64 (m.offered:Nat),.int .i64 (m.applied:Nat),.int .i64 m.wanted,.bool m.down] 98/\True) ⟨hB.drew,trivial⟩ ?_
  refine Wn ?_
  refine Wj ?_
  refine zc rfl (λK hK=>?_);go_wp2;refine hK.out _ _ (λ_=>⟨hB.drew,trivial⟩) ?_;clear hK K
  refine Wn ?_
  refine Wj ?_
  refine Wn ?_
  refine ze ?_;go_wp2;go_end0
  rw [ah.out,hR.out];exact⟨rfl,ow',al.trans (zt.drew t ow' wr),_,_,_,_,_,(zy.loc B px sb lb pb _ m t).below hN (zq (N2 wr.heap.size wr))⟩
theorem XV(B:Nat)(i:Int)(w:World):Calls prog 143 #[.pointer (some ⟨B,0,none⟩),.int .i64 i] w λe w'=>
 e=.returned (.func (.func 188) #[] #[.pointer (some ⟨w.heap.size+1,0,none⟩),.pointer (some ⟨w.heap.size,0,none⟩)])/\w'=(w.alloc (.cells #[.pointer (some ⟨B,0,none⟩)] 300)).alloc (.cells #[.int .i64 i] 3):=by
 go_enter func143,ntmps143
 go_wp2;go_ret
 exact⟨rfl,rfl⟩
theorem VA(ib qb B:Nat)(p:xH)(t:List Nat)(i0:Nat)(hi:i0<=10001)(hk:yz p.known):
 Qr Fence.wide 2 prog 188 #[.pointer (some ⟨ib,0,none⟩),.pointer (some ⟨qb,0,none⟩)] (λx:List UInt8=> #[.string (bs x)])
  (λ(k:Nat) x=>zE (k:Int) p.known=some x) (λk _=>k+1) (λk=>zE (k:Int) p.known=none)
  (λ_ W=>Blk W ib #[.int .i64 (i0:Nat)] 3/\Blk W qb #[.pointer (some ⟨B,0,none⟩)] 300/\∃px ow,W.cell? ⟨B,0,none⟩=some (.pointer (some ⟨px,0,none⟩))/\yh px p t ow W) i0:=by
 intro lp J Jx W hJ hJx hRd hY h0;have e0:=(hRd _ _ _ h0).1.cell;have hF:Fence.wide.fn 188:=trivial;have af:Fence.wide.round=none:=rfl;refine callsIn_of_wp func188 rfl hF ?_ af;simp only [ntmps188,R8,Nat.reduceAdd,Nat.reduceSub]
 gi_wp2
 gi_loopw [4] (λp4 wr=>∃(k:Nat)(X:Nat->Prop),p4=.int .i64 (k:Nat)/\k<=10001/\J k X wr) (λp4 _=>10001 - (intOf p4).toNat)
 case atStart=>exact⟨i0,_,rfl,hi,h0⟩
 case round=>
  obtain⟨k,X,rfl,ak,ae⟩:=hrel;clear e0;obtain⟨-,kq,px,ow,cB,hP⟩:=hRd _ _ _ ae;have eq:=kq.cell;have aa:=λW hW=>Yv px p t ow (k:Int) W hW
  cases hl:zE (k:Int) p.known with
  |none=>
   rw [hl] at aa;simp only [Option.getD_none,Option.isSome_none] at aa;replace aa:=hid aa;replace hl:=hid hl
   gi_wp2_with fail
   refine(callsIn_wide.2 (aa.out _ hP)).mono ?_;rintro e w1⟨rfl,ad⟩;have ac:J k X w1:=hJ _ _ _ _ _ ae (Mod.of_below X ad) (λk h=>.inl h)
   gi_wp2
   refine bodyPost_ret (results_none rfl _ _ _) rfl ?_;exact⟨⟨_,rfl⟩,.inl ⟨k,X,hl.out,ac⟩⟩
  |some x=>
   rw [hl] at aa;simp only [Option.getD_some,Option.isSome_some] at aa;have aj:=hk _ _ hl;have ai:IntKind.i64.wrap ((k:Int)+1)=(k:Int)+1:=by rw [N8];omega
   replace aa:=hid aa
   gi_wp2_with fail
   refine(callsIn_wide.2 (aa.out _ hP)).mono ?_;rintro e w1⟨rfl,ad⟩;have ac:J k X w1:=hJ _ _ _ _ _ ae (Mod.of_below X ad) (λk h=>.inl h);obtain⟨fn,tmps,assign,body,hy,hR⟩:=hY k x X w1 ac hl;replace hl:=hid hl
   gi_wp2
   refine hR.mono ?_;rintro e W'(⟨rfl,ah, -⟩|⟨rfl,ag⟩)
   ·clear hR hy
    gi_wp2
    go_roundw
    case rel=>exact⟨k+1,_,by simp,by omega,ah⟩
    case measure=>simp [intOf];omega
   gi_wp2
   refine bodyPost_ret (results_none rfl _ _ _) rfl ?_;exact⟨⟨_,rfl⟩,.inr ⟨_,ag⟩⟩
theorem ziG(B:Nat)(L:zP)(t:List Nat)(ow:Own)(w:World)(h:zK B L t ow w)(hl:L.fold.eras.length<=536870912):Calls prog 128 #[.pointer (some ⟨B,0,none⟩)] w λe w'=>
 ∃v',e=.returned v'/\Row w' 197 3 v' L.fold.eras.length (L.fold.eras.flatMap ji)/\Below w.heap.size w w'/\(∀g,v'.ownBlock=some g->w.heap.size<=g):=by
 have hn:=Z4 B L t ow w h;obtain⟨hk,fb,hv,lv,hB,hF, -⟩:=h;have he:=zeO fb L.fold (t++ [0]) ow w hF hl;have e0:=hB.cell;unfold j3 at e0;replace hn:=hid hn;replace he:=hid he;replace hF:=hid hF;clear hB hk
 go_enter func128,ntmps128
 go_wp2_with fail
 refine hn.out.mono ?_;rintro e w1⟨rfl,aa⟩;obtain rfl:=aa.symm;go_wp2_with fail
 refine he.out.mono ?_;rintro e w2⟨v',rfl,h1,h2,h3⟩;replace h3:=hid h3;go_wp2;go_ret
 exact⟨_,rfl,h1,h2,h3.out⟩
theorem zlC {W:World}{l:List ZA}{b off cap:Nat}(h:Src W (.slice (some ⟨b,off,none⟩) l.length cap) 3 l.length (l.flatMap ji)){k:Nat}{x:ZA}(hx:l[k]?=some x):
 W.cell? ⟨b,off+k*3,none⟩=some (.int .u32 x.1)/\W.cell? ⟨b,off+k*3+1,none⟩=some (.int .i64 x.2.1)/\W.cell? ⟨b,off+k*3+2,none⟩=some (.int .i64 x.2.2):=by
 rcases h.2 with⟨h, -⟩|⟨b',off',cap',h, -,hr⟩
 ·cases h
 cases h
 have aa:∀j u,(ji x)[j]?=some u->j<3->W.cell? ⟨b,off+(k*3+j),none⟩=some u:=λj u hu hj=>hr _ u ((Z3 l k x hx j hj).trans hu)
 exact⟨aa 0 _ rfl (by omega),aa 1 _ rfl (by omega),aa 2 _ rfl (by omega)⟩
theorem ziH {px sb lb pb:Nat}{av:Value}(B:Nat)(n:zr)(t:List Nat)(ow:Own)(e:jH)(mv:Value)(w:World)(h:zy B px sb lb pb av n t ow w)(hl:n.loc.fold.eras.length<=536870912):
 Calls prog 216 #[.pointer (some ⟨B,0,none⟩),ZG e mv] w λr w'=>r=.returned (.int .i64 (qi n e))/\Below w.heap.size w w':=by
 have hB:=h.blk;have ac:=λW hW=>ziG lb n.loc (t++ [2]) ow W hW hl
 have ad:=h.lo;unfold zz at hB;have e0:=hB.cell;have l0:=hB.lt;unfold ZG qi;clear h hB;replace ad:=hid ad;replace ac:=hid ac
 by_cases h2:e.kind=2
 ·have t1:(e.kind==2)=true:=by simp [h2]
  rw [if_pos h2];replace h2:=hid h2
  go_enter func216,ntmps216
  go_wp2;go_ret
  exact⟨rfl,pbx⟩
 have t1:(e.kind==2)=false:=by simp [h2]
 rw [if_neg h2];replace h2:=hid h2
 by_cases h3:e.kind=3
 ·have t2:(e.kind==3)=true:=by simp [h3]
  rw [if_pos h3];replace h3:=hid h3
  generalize n.loc.fold.eras=l at*
  by_cases h4:1<l.length
  ·have t3:decide ((1:Int)<(l.length:Int))=true:=by simp;omega
   rw [if_pos h4];obtain⟨x,hx⟩:∃x,l[l.length - 2]?=some x:=⟨_,N3 (by omega)⟩;rw [hx,Option.getD_some];have y0:(0:Int)<=(l.length:Int) - 2:=by omega
   have y1:(l.length:Int) - 2<(l.length:Int):=by omega
   have ag:IntKind.i64.wrap ((l.length:Int) - 2)=(l.length:Int) - 2:=by rw [N8];omega
   have ah:((l.length:Int) - 2).toNat=l.length - 2:=by omega
   replace hx:=hid hx
   go_enter func216,ntmps216
   go_wp2_with fail
   refine(ac.out _ ((zK.loc lb n.loc _).below ad.out (pbx))).mono ?_;rintro r w1⟨v',rfl,aa,af, -⟩;have ae:Below w.heap.size w w1:=pbx
   obtain⟨g,cap,rfl⟩:∃g cap,v'=.slice (some ⟨g,0,none⟩) l.length cap:=by
    rcases aa.form with⟨-,h0, -⟩|⟨g,cap,h, -⟩
    ·omega
    exact⟨g,cap,h⟩
   obtain⟨c0,c1,c2⟩:=zlC aa.src hx.out;simp only [Nat.zero_add] at c0 c1 c2;replace aa:=hid aa;go_wp2;go_ret
   exact⟨rfl,ae⟩
  have t3:decide ((1:Int)<(l.length:Int))=false:=by simp;omega
  rw [if_neg h4]
  go_enter func216,ntmps216
  go_wp2_with fail
  refine(ac.out _ ((zK.loc lb n.loc _).below ad.out (pbx))).mono ?_;rintro r w1⟨v',rfl,aa,af, -⟩;have ae:Below w.heap.size w w1:=pbx;obtain⟨va,vc,rfl⟩:=aa.src.shape;replace aa:=hid aa;go_wp2;go_ret
  exact⟨rfl,ae⟩
 have t2:(e.kind==3)=false:=by simp [h3]
 rw [if_neg h3];replace h3:=hid h3
 go_enter func216,ntmps216
 go_wp2;go_ret
 exact⟨rfl,pbx⟩
theorem yI.node {t:List Nat}{i B:Nat}{A:Own->World->Prop}(hA:yI (t++ [i]) A){ow ow':Own}{W W':World}(h:A ow W)(ho:ow B=t)(hM:Mod (λk=>k=B) W W')(hag:∀k,k<W.heap.size->ow' k=ow k):A ow' W':=
 hA _ _ _ _ h hM.size (λk hk hs=>⟨hag k hk,hM.block k hk (λe=>by subst e;rw [ho] at hs;exact zU t i hs)⟩)
def ziI(B:Nat)(id v:Int)(sv:Value)(down:Bool)(t:List Nat)(ow:Own)(w:World)(e:Ending)(w':World):Prop:=
 e=.returned (.int .i64 0)/\∃ow' px lb pb,(∀k,k<w.heap.size->ow' k=ow k)/\Mod (λk=>k=B) w w'/\
  Blk w' B #[.pointer (some ⟨px,0,none⟩),.int .i64 id,.int .i64 v,.slice none 0 0,sv,.pointer (some ⟨lb,0,none⟩),.pointer (some ⟨pb,0,none⟩),.slice none 0 0,.int .i64 0,.int .i64 0,.int .i64 0,.bool down] 98/\
  yh px xl (t++ [0]) ow' w'/\zK lb (zeT v (zk v)) (t++ [2]) ow' w'/\j5 pb Ze (t++ [3]) ow' w'
theorem zaj(a:Addr)(B:Nat)(c0 c5 c6 c7 c8 c9 c10:Value)(id v:Int)(sv:Value)(down:Bool)(t:List Nat)(ow:Own)(w:World)(hv:known v=true)(he:jK w a)(ho:ow B=t)
 (hB:Blk w B #[c0,.int .i64 id,.int .i64 v,.slice none 0 0,sv,c5,c6,c7,c8,c9,c10,.bool down] 98):
 Calls prog 44 #[.pointer (some ⟨B,0,none⟩)] w (ziI B id v sv down t ow w):=by
 have an:=zkt a v hv (t++ [2]) ow w he;have au:=λac W=>ziB (t++ [0]) ac W
 have ay:=λac W=>zie (t++ [3]) ac W
 have a2:=hB.lt;have e0:=hB.cell;replace an:=hid an;replace au:=hid au;replace ay:=hid ay;replace he:=hid he
 go_enter func44,ntmps44
 go_wp2_with fail
 refine an.out.mono ?_;rintro e w1⟨lb,ac,rfl,a0,ar,hL⟩;have az:=hB.call ar;have a6:ac B=t:=(a0.agree B a2).trans ho;go_wp2_with fail
 refine(au.out ac _).mono ?_;rintro e w2⟨px,am,rfl,ap,ae,hP,ba⟩;have al:=az.call ae;have aq:am B=t:=(ap.agree B az.lt).trans a6;have a1:zK lb (zeT v (zk v)) (t++ [2]) am w2:=zK.loc _ _ _ _ _ _ _ hL ae.size (λk hk _=>⟨ap.agree k hk,ae.block k hk⟩);have ao:=zh ar ae;have a5:=al.frozen;have be:=al.lt;have a3:=al.cell;clear e0;go_wp2_with fail
 obtain⟨W3,ak⟩:∃W3,W3=(w2.setCell ⟨B,0,none⟩ (.pointer (some ⟨px,0,none⟩))).setCell ⟨B,5,none⟩ (.pointer (some ⟨lb,0,none⟩)):=⟨_,rfl⟩;have aw:=(al.set (o:=0) (.pointer (some ⟨px,0,none⟩))).set (o:=5) (.pointer (some ⟨lb,0,none⟩));rw [← ak] at aw;have aa:Mod (λk=>k=B) w2 W3:=by rw [ak];exact((Mod.refl (λk=>k=B) w2).thenSet (p:=⟨B,0,none⟩) rfl _).thenSet (p:=⟨B,5,none⟩) rfl _
 rw [← ak];clear ak a5 a3;refine(ay.out am _).mono ?_;rintro e w4⟨pb,aj,rfl,ah,ai,hQ,bf⟩;have ag:=aw.call ai;have a4:yh px xl (t++ [0]) aj w4:=yI.node (yh.loc px xl (t++ [0])) hP aq (aa.thenCall ai) (λk hk=>ah.agree k (by have:=aa.size;omega));have a7:zK lb (zeT v (zk v)) (t++ [2]) aj w4:=yI.node (zK.loc lb _ (t++ [2])) a1 aq (aa.thenCall ai) (λk hk=>ah.agree k (by have:=aa.size;omega));have ax:aj B=t:=(ah.agree B aw.lt).trans aq;have a8:=ag.frozen;have bg:=ag.cell;have bd:=ag.lt;go_wp2;go_ret
 have af:Mod (λk=>k=B) w4 (((((w4.setCell ⟨B,6,none⟩ (.pointer (some ⟨pb,0,none⟩))).setCell ⟨B,7,none⟩ (.slice none 0 0)).setCell ⟨B,8,none⟩ (.int .i64 0)).setCell ⟨B,9,none⟩ (.int .i64 0)).setCell ⟨B,10,none⟩ (.int .i64 0)):=
  (((((Mod.refl (λk=>k=B) w4).thenSet (p:=⟨B,6,none⟩) rfl _).thenSet (p:=⟨B,7,none⟩) rfl _).thenSet (p:=⟨B,8,none⟩) rfl _).thenSet (p:=⟨B,9,none⟩) rfl _).thenSet (p:=⟨B,10,none⟩) rfl _
 have k5:=((((ag.set (o:=6) (.pointer (some ⟨pb,0,none⟩))).set (o:=7) (.slice none 0 0)).set (o:=8) (.int .i64 0)).set (o:=9) (.int .i64 0)).set (o:=10) (.int .i64 0)
 have ad:Mod (λk=>k=B) w (((((w4.setCell ⟨B,6,none⟩ (.pointer (some ⟨pb,0,none⟩))).setCell ⟨B,7,none⟩ (.slice none 0 0)).setCell ⟨B,8,none⟩ (.int .i64 0)).setCell ⟨B,9,none⟩ (.int .i64 0)).setCell ⟨B,10,none⟩ (.int .i64 0)):=
  ((Mod.of_below (λk=>k=B) ao).trans (aa.thenCall ai) (λ_ _ e=>e) (λ_ _ e=>e)).trans af (λ_ _ e=>e) (λ_ _ e=>e)
 have bc:=ar.size;have a9:=ae.size;have bb:=aa.size;refine⟨rfl,aj,px,lb,pb,λk hk=>?_,ad,k5,yI.node (yh.loc px xl (t++ [0])) a4 ax af (λ_ _=>rfl),yI.node (zK.loc lb _ (t++ [2])) a7 ax af (λ_ _=>rfl),yI.node (j5.loc pb Ze (t++ [3])) hQ ax af (λ_ _=>rfl)⟩;rw [ah.agree k (by omega),ap.agree k (by omega),a0.agree k hk]
def zeb(id v cap:Int)(t:List Nat)(ow:Own)(w:World)(e:Ending)(w':World):Prop:=
 ∃B ow',e=.returned (.tuple #[.pointer (some ⟨B,0,none⟩),.int .i64 0])/\zt t ow w ow' w'/\Below w.heap.size w w'/\jF B (zhv id v cap [] (zk v)) t ow' w'/\w.heap.size<=B
theorem zkw(a:Addr)(id v cap:Int)(hi:0<=id)(hi2:id<16)(hv:known v=true)(h1:64<=cap)(h2:cap<=1048576)(t:List Nat)(ow:Own)(w:World)(he:jK w a):
 Calls prog 24 #[.int .i64 id,.int .i64 v,.int .i64 cap,.slice none 0 0] w (zeb id v cap t ow w):=by
 have ad:=zit cap h1 h2 (t++ [1]) ow w;have af:=λW=>Tryz.slices_Clone_int_nil 0 0 W
 have t1:decide (id<0)=false:=by simp;omega
 have t2:decide (16<=id)=false:=by simp;omega
 replace ad:=hid ad;replace af:=hid af
 go_enter func24,ntmps24
 go_wp2_with fail
 refine ad.out.mono ?_;rintro e w1⟨sb,aj,rfl,ao,ai,hS,aw⟩;go_wp2_with fail
 refine(af.out _).mono ?_;rintro e w2⟨rfl,aq⟩;obtain rfl:=aq.symm;have al:Blk (w1.alloc (.cells #[.pointer none,.int .i64 id,.int .i64 v,.slice none 0 0,.pointer (some ⟨sb,0,none⟩),.pointer none,.pointer none,.slice none 0 0,.int .i64 0,.int .i64 0,.int .i64 0,.bool false] 98)) w1.heap.size _ 98:=Blk.new rfl;have ae:Below w.heap.size w (w1.alloc (.cells #[.pointer none,.int .i64 id,.int .i64 v,.slice none 0 0,.pointer (some ⟨sb,0,none⟩),.pointer none,.pointer none,.slice none 0 0,.int .i64 0,.int .i64 0,.int .i64 0,.bool false] 98)):=zi ai _;obtain⟨W2,ac⟩:∃W2,W2=w1.alloc (.cells #[.pointer none,.int .i64 id,.int .i64 v,.slice none 0 0,.pointer (some ⟨sb,0,none⟩),.pointer none,.pointer none,.slice none 0 0,.int .i64 0,.int .i64 0,.int .i64 0,.bool false] 98):=⟨_,rfl⟩;have am:jx sb (Zd cap) (t++ [1]) (aj.ext w1.heap.size (λk=>k=w1.heap.size) t) W2:=jx.loc _ _ _ _ _ _ _ hS (by rw [ac];simp) (λk hk _=>⟨Own.ext_old hk,by rw [ac];exact U4 _ _ _ hk⟩);have an:W2.heap.size=w1.heap.size+1:=by rw [ac];simp
 rw [← ac] at al ae;have aa:=zaj a w1.heap.size _ _ _ _ _ _ _ id v _ false t (aj.ext w1.heap.size (λk=>k=w1.heap.size) t) W2 hv (he.below ae he.lt) (Own.ext_new (N0 _) rfl) al;replace aa:=hid aa;go_wp2_with fail
 rw [← ac];clear ac;refine aa.out.mono ?_;rintro e w3⟨rfl,ah,px,lb,pb,ag,hM,k3,hP,hL,hQ⟩;have ap:=ai.size;go_wp2;go_ret2
 have ak:Below w.heap.size w w3:=ae.trans (hM.to_below (by omega) (λk _ e=>by omega));have ar:jx sb (Zd cap) (t++ [1]) ah w3:=yI.node (jx.loc sb _ (t++ [1])) am (Own.ext_new (N0 _) rfl) hM ag;have au:ah w1.heap.size=t:=(ag _ (by omega)).trans (Own.ext_new (N0 _) rfl);refine⟨w1.heap.size,ah,rfl,⟨Mod.of_below _ ak,λk hk=>?_⟩,ak,⟨px,sb,lb,pb,.slice none 0 0,k3,hP,ar,hL,hQ,z7 _ _ _,au,by simp [Value.ownBlock],rfl⟩,ap⟩;rw [ag k (by omega),Own.ext_old (by omega),ao.agree k hk]
