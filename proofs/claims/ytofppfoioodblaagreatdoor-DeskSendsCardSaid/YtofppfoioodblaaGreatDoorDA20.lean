/- PARTS OF THE PROOF. -/
import Derived.Test.YtofppfoioodblaaGreatDoorDA19
set_option maxRecDepth 8000
set_option maxHeartbeats 4000000
open Go.Proofs.Tryz
namespace Go.Proofs.YtofppfoioodblaaGreatDoor
section
open Go Go.RowKit Go.Shelf Go.Extern.Stop Go.Stop Go.Extern
attribute [local go_sem] Oper.semAt_some zB zo
def zD(px sb lb pb:Nat)(av:Value)(n:zq):Array Value:=
 #[.pointer (some ⟨px,0,none⟩),.int .i64 n.id,.int .i64 n.version,.slice none 0 0,.pointer (some ⟨sb,0,none⟩),.pointer (some ⟨lb,0,none⟩),.pointer (some ⟨pb,0,none⟩),av,.int .i64 (n.offered:Nat),.int .i64 (n.applied:Nat),.int .i64 n.wanted,.bool n.down]
structure zw(B px sb lb pb:Nat)(av:Value)(n:zq)(t:List Nat)(ow:Own)(W:World):Prop where
 blk:Blk W B (zD px sb lb pb av n) 98
 pax:yI px n.pax (t++ [0]) ow W
 st:jF sb n.store (t++ [1]) ow W
 lo:zL lb n.loc (t++ [2]) ow W
 pool:jY pb n.pool (t++ [3]) ow W
 row:Row W 78 3 av n.acc.length (n.acc.flatMap zh)
 own:ow B=t
 rown:∀g,av.ownBlock=some g->ow g=t++ [4]
 bad:n.bad=[]
theorem zw.loc(B px sb lb pb:Nat)(av:Value)(n:zq)(t:List Nat):yC t (zw B px sb lb pb av n t):=by
 intro ow ow' W W' h hs hk;have kB:=hk B h.blk.lt (by rw [h.own];exact Sub.rfl' t);have kR:∀g,av.ownBlock=some g->ow' g=ow g/\W'.heap[g]?=W.heap[g]?:=λg hg=>hk g (h.row.lt hg) (by rw [h.rown g hg];exact Sub.child t 4)
 exact⟨h.blk.kept kB.2,yI.loc px n.pax (t++ [0]) _ _ _ _ h.pax hs (λk a b=>hk k a ((Sub.child t 0).trans b)),jF.loc sb n.store (t++ [1]) _ _ _ _ h.st hs (λk a b=>hk k a ((Sub.child t 1).trans b)),
  zL.loc lb n.loc (t++ [2]) _ _ _ _ h.lo hs (λk a b=>hk k a ((Sub.child t 2).trans b)),jY.loc pb n.pool (t++ [3]) _ _ _ _ h.pool hs (λk a b=>hk k a ((Sub.child t 3).trans b)),
  h.row.kept (λg hg=>(kR g hg).2),kB.1.trans h.own,λg hg=>(kR g hg).1.trans (h.rown g hg),h.bad⟩
def jH(B:Nat)(n:zq)(t:List Nat)(ow:Own)(W:World):Prop:=∃px sb lb pb av,zw B px sb lb pb av n t ow W
theorem jH.loc(B:Nat)(n:zq)(t:List Nat):yC t (jH B n t):=by
 rintro ow ow' W W'⟨px,sb,lb,pb,av,h⟩ hs hk;exact⟨px,sb,lb,pb,av,zw.loc B px sb lb pb av n t _ _ _ _ h hs hk⟩
theorem J1(t:List Nat){i j:Nat}(h:i≠j){u:List Nat}(hu:u=t++ [j]):¬Sub (t++ [i]) u:=by subst hu;exact(zR t h).1
theorem Z6(t:List Nat)(i:Nat){u:List Nat}(hu:u=t):¬Sub (t++ [i]) u:=by subst hu;exact zO _ i
variable {B px sb lb pb:Nat}{av:Value}{n:zq}{t:List Nat}{ow ow':Own}{W W':World}
theorem zw.blkS(h:zw B px sb lb pb av n t ow W){i:Nat}(hs:zp (t++ [i]) ow W ow' W'):Blk W' B (zD px sb lb pb av n) 98:=h.blk.kept (hs.block h.blk.lt (Z6 t i h.own))
theorem zw.rowS(h:zw B px sb lb pb av n t ow W){i:Nat}(hi:i≠4)(hs:zp (t++ [i]) ow W ow' W'):Row W' 78 3 av n.acc.length (n.acc.flatMap zh):=h.row.kept (λg hg=>hs.block (h.row.lt hg) (J1 t hi (h.rown g hg)))
theorem zw.ownS(h:zw B px sb lb pb av n t ow W){i:Nat}(hs:zp (t++ [i]) ow W ow' W'):ow' B=t:=(hs.agree B h.blk.lt).trans h.own
theorem zw.rownS(h:zw B px sb lb pb av n t ow W){i:Nat}(hs:zp (t++ [i]) ow W ow' W'):∀g,av.ownBlock=some g->ow' g=t++ [4]:=λg hg=>(hs.agree g (h.row.lt hg)).trans (h.rown g hg)
theorem zw.setPax(h:zw B px sb lb pb av n t ow W)(p:xM)(hs:zp (t++ [0]) ow W ow' W')(hp:yI px p (t++ [0]) ow' W'):zw B px sb lb pb av {n with pax:=p} t ow' W':=
 ⟨h.blkS hs,hp,(jF.loc _ _ _).step h.st hs (zR t (by decide)),(zL.loc _ _ _).step h.lo hs (zR t (by decide)),(jY.loc _ _ _).step h.pool hs (zR t (by decide)),h.rowS (by decide) hs,h.ownS hs,h.rownS hs,h.bad⟩
theorem zw.setStore(h:zw B px sb lb pb av n t ow W)(s:yv)(hs:zp (t++ [1]) ow W ow' W')(hp:jF sb s (t++ [1]) ow' W'):zw B px sb lb pb av {n with store:=s} t ow' W':=
 ⟨h.blkS hs,(yI.loc _ _ _).step h.pax hs (zR t (by decide)),hp,(zL.loc _ _ _).step h.lo hs (zR t (by decide)),(jY.loc _ _ _).step h.pool hs (zR t (by decide)),h.rowS (by decide) hs,h.ownS hs,h.rownS hs,h.bad⟩
theorem zw.setLocal(h:zw B px sb lb pb av n t ow W)(L:zQ)(hs:zp (t++ [2]) ow W ow' W')(hp:zL lb L (t++ [2]) ow' W'):zw B px sb lb pb av {n with loc:=L} t ow' W':=
 ⟨h.blkS hs,(yI.loc _ _ _).step h.pax hs (zR t (by decide)),(jF.loc _ _ _).step h.st hs (zR t (by decide)),hp,(jY.loc _ _ _).step h.pool hs (zR t (by decide)),h.rowS (by decide) hs,h.ownS hs,h.rownS hs,h.bad⟩
theorem zw.setPool(h:zw B px sb lb pb av n t ow W)(p:xn)(hs:zp (t++ [3]) ow W ow' W')(hp:jY pb p (t++ [3]) ow' W'):zw B px sb lb pb av {n with pool:=p} t ow' W':=
 ⟨h.blkS hs,(yI.loc _ _ _).step h.pax hs (zR t (by decide)),(jF.loc _ _ _).step h.st hs (zR t (by decide)),(zL.loc _ _ _).step h.lo hs (zR t (by decide)),hp,h.rowS (by decide) hs,h.ownS hs,h.rownS hs,h.bad⟩
theorem zw.setOwn(h:zw B px sb lb pb av n t ow W)(m:zq)(hM:Mod (λk=>k=B) W W')(hB:Blk W' B (zD px sb lb pb av m) 98)(e1:m.pax=n.pax)(e2:m.store=n.store)(e3:m.loc=n.loc)(e4:m.pool=n.pool)(e5:m.acc=n.acc)(e6:m.bad=n.bad):
 zp t ow W ow W'/\zw B px sb lb pb av m t ow W':=by
 have hk:∀(i:Nat)(k:Nat),k<W.heap.size->Sub (t++ [i]) (ow k)->ow k=ow k/\W'.heap[k]?=W.heap[k]?:=λi k hk hs=>⟨rfl,hM.block k hk (λe=>by subst e;rw [h.own] at hs;exact zO t i hs)⟩
 refine⟨⟨hM.mono (λk _ e=>by subst e;rw [h.own];exact Sub.rfl' _),λ_ _=>rfl⟩,hB,?_,?_,?_,?_,?_,h.own,h.rown,e6.trans h.bad⟩
 ·rw [e1];exact yI.loc _ _ _ _ _ _ _ h.pax hM.size (hk 0)
 ·rw [e2];exact jF.loc _ _ _ _ _ _ _ h.st hM.size (hk 1)
 ·rw [e3];exact zL.loc _ _ _ _ _ _ _ h.lo hM.size (hk 2)
 ·rw [e4];exact jY.loc _ _ _ _ _ _ _ h.pool hM.size (hk 3)
 rw [e5];exact h.row.mod hM (λg hg e=>h.row.ne_blk h.blk (by decide) hg e)
def Zt(B:Nat)(n:zq)(t:List Nat)(ow:Own)(w:World)(v:Value)(e:Ending)(w':World):Prop:=
 e=.returned v/\∃ow',zp t ow w ow' w'/\jH B n t ow' w'
theorem X3(a:Addr)(w:World):(binOp .eql 95 (.pointer (some a)) (.pointer none)).run prog w=.ok (.bool false) w:=by kernel_rfl
theorem YI(w:World)(hB:Blk w B (zD px sb lb pb av n) 98):Calls prog 37 #[.pointer (some ⟨B,0,none⟩)] w λe w'=>e=.returned (.bool false)/\w'=w:=by
 unfold zD at hB;have e0:=hB.cell;have h0:=X3 ⟨sb,0,none⟩ w
 go_enter func37,ntmps37
 go_wp2;go_ret
 exact⟨rfl,rfl⟩
theorem xu(w:World)(hB:Blk w B (zD px sb lb pb av n) 98):Calls prog 90 #[.pointer (some ⟨B,0,none⟩)] w λe w'=>e=.returned (.int .i64 (Yp n))/\w'=w:=by
 have hn:=YI w hB;unfold zD at hB;have e0:=hB.cell;unfold Yp;replace hn:=hid hn
 cases hd:n.down
 all_goals
  rw [hd] at e0;replace hd:=hid hd;replace hB:=hid hB
  go_enter func90,ntmps90
  go_wp2_with (go_at_call 37;refine hn.out.mono ?_;rintro e w1 ⟨rfl,aa⟩;obtain rfl:=aa.symm)
  go_ret
  exact⟨rfl,rfl⟩
theorem YJ(w:World)(h:zw B px sb lb pb av n t ow w)(hl:n.acc.length<=1073741824):Calls prog 17 #[.pointer (some ⟨B,0,none⟩)] w λe w'=>
 ∃v',e=.returned v'/\Row w' 78 3 v' n.acc.length (n.acc.flatMap zh)/\Below w.heap.size w w'/\(∀g,v'.ownBlock=some g->w.heap.size<=g):=by
 have hB:=h.blk;have hn:=YI w hB;have hc:=Xn av n.acc w h.row.src hl;unfold zD at hB;have e0:=hB.cell;replace hn:=hid hn;replace hc:=hid hc;clear h hB
 go_enter func17,ntmps17
 go_wp2_with (first
  |(go_at_call 37;refine hn.out.mono ?_;rintro e w1 ⟨rfl,aa⟩;obtain rfl:=aa.symm)
  |(go_at_call 38;refine hc.out.mono ?_;rintro e w2 ⟨v',rfl,h1,h2,h3⟩;replace h3:Hid (∀_,_):=h3))
 go_ret
 exact⟨_,rfl,h1,h2,h3.out⟩
theorem Vj(w:World)(hB:Blk w B (zD px sb lb pb av n) 98):Calls prog 21 #[.pointer (some ⟨B,0,none⟩)] w λe w'=>e=.returned (.pointer (some ⟨lb,0,none⟩))/\w'=w:=by
 have hn:=YI w hB;unfold zD at hB;have e0:=hB.cell;replace hn:=hid hn;replace hB:=hid hB
 go_enter func21,ntmps21
 go_wp2_with (go_at_call 37;refine hn.out.mono ?_;rintro e w1 ⟨rfl,aa⟩;obtain rfl:=aa.symm)
 go_ret
 exact⟨rfl,rfl⟩
end
open Go Go.RowKit Go.Shelf Go.Extern.Stop Go.Stop Go.Extern
attribute [local go_sem] Oper.semAt_some zB zo
theorem xw(B:Nat)(b:Bool)(w:World):Calls prog 93 #[.pointer (some ⟨B,0,none⟩),.bool b] w λe w'=>
 e=.returned (.func (.func 136) #[] #[.pointer (some ⟨w.heap.size,0,none⟩),.pointer (some ⟨w.heap.size+1,0,none⟩)])/\w'=(w.alloc (.cells #[.pointer (some ⟨B,0,none⟩)] 43)).alloc (.cells #[.bool b] 4):=by
 go_enter func93,ntmps93
 go_wp2;go_ret
 exact⟨rfl,rfl⟩
theorem join_nil:∀(l:List (List UInt8)),Lib.join l []=l.flatten
 | []=>by simp [Lib.join,List.intercalate]
 | [x]=>by simp [Lib.join,List.intercalate]
 |x::y::l=>by
  have ih:=join_nil (y::l);simp only [Lib.join,List.intercalate,List.intersperse_cons_cons,List.flatten_cons,List.nil_append] at*;rw [ih]
theorem zcP(v:Value)(ts:List (List UInt8))(w:World)(hv:Src w v 1 ts.length (yh ts))(h0:0<ts.length)(hn:ts.length<=1000)(hl:ts.flatten.length<=1073741824):
 Calls prog 138 #[v,.string ⟨#[]⟩] w λe w'=>e=.returned (.string (bs ts.flatten))/\Below w.heap.size w w':=by
 rcases hv.2 with⟨rfl,hz⟩|⟨b,off,cap,rfl,hc,hr⟩
 ·omega
 have hb:b<w.heap.size:=jx (hr 0 _ (by simp [yh];exact⟨_,N3 h0,rfl⟩))
 have hm:(ts.map bs).map (λs:ByteArray=>s.data.toList)=ts:=by rw [List.map_map];exact(List.map_congr_left (λx _=>xE x)).trans (List.map_id _)
 have hj:=Tryz.strings_Join b off cap (ts.map bs) ⟨#[]⟩ w (λj t hz=>by
  obtain⟨x,hx,rfl⟩:∃x,ts[j]?=some x/\bs x=t:=by simpa using hz
  exact hr j _ (by simp [yh,hx])) hb (by simp;omega) (by simpa using hc) (by
   rw [hm];show(Lib.join ts []).length<=_;rw [join_nil];omega)
 rw [hm,show Lib.join ts (ByteArray.mk #[]).data.toList=ts.flatten from join_nil ts,List.length_map] at hj;exact hj
theorem zkv(B:Nat)(n:zq)(t:List Nat)(ow:Own)(b:Bool)(kb kc:Nat)(v:Value)(ts:List (List UInt8))(w:World)(h:jH B n t ow w)(hcap:vx n.store)(k0:Blk w kb #[.pointer (some ⟨B,0,none⟩)] 43)(k1:Blk w kc #[.bool b] 4)
 (ho0:ow kb=[]) (ho1:ow kc=[]) (hv:Src w v 1 ts.length (yh ts)) (h0:0<ts.length) (hn:ts.length<=1000) (hl:ts.flatten.length<=1073741000):
 Calls prog 136 #[v,.pointer (some ⟨kb,0,none⟩),.pointer (some ⟨kc,0,none⟩)] w (Zt B (yk n b ts.flatten).1 t ow w (.int .i64 (yk n b ts.flatten).2)):=by
 obtain⟨px,sb,lb,pb,av,hN⟩:=h;have ae:=λW hW=>zcP v ts W hW h0 hn (by omega)
 have aj:=λW hW=>zeh sb n.store (t++ [1]) ow ts.flatten W hW hcap hl
 have hB:=hN.blk;have ar:yk n b ts.flatten=({n with store:=(jb n.store ts.flatten).1,down:=n.down||decide ((jb n.store ts.flatten).2=31)||(b && decide ((jb n.store ts.flatten).2≠0))},(jb n.store ts.flatten).2):=rfl
 generalize ts.flatten=d at*
 obtain⟨⟨s',er⟩,hw⟩:∃x,jb n.store d=x:=⟨_,rfl⟩;rw [hw] at aj ar;simp only at aj ar;rw [ar];simp only
 obtain⟨va,vn,vc,rfl⟩:∃a n c,v=.slice a n c:=by
  rcases hv.2 with⟨rfl, -⟩|⟨b,off,cap,rfl, -⟩
  ·exact⟨_,_,_,rfl⟩
  exact⟨_,_,_,rfl⟩
 unfold zD at hB;replace ae:=hid ae;replace aj:=hid aj;replace ar:=hid ar;replace hw:=hid hw
 by_cases h31:er=31
 ·have t1:(er==31)=true:=by simp [h31]
  rw [show(n.down||decide (er=31)||(b && decide (er≠0)))=true by simp [h31]];replace h31:=hid h31
  go_enter func136,ntmps136
  go_wp2_with fail
  refine zd [O 0,O 1,O 2,O 3,O 4,E 5,E 6,O 7] none (λw'=>Blk w' kb #[.pointer (some ⟨B,0,none⟩)] 43/\Blk w' B #[.pointer (some ⟨px,0,none⟩),.int .i64 n.id,.int .i64 n.version,.slice none 0 0,.pointer (some ⟨sb,0,none⟩),.pointer (some ⟨lb,0,none⟩),.pointer (some ⟨pb,0,none⟩),av,.int .i64 (n.offered:Nat),.int .i64 (n.applied:Nat),.int .i64 n.wanted,.bool n.down] 98/\True) (by kernel_rfl) (by kernel_rfl) ⟨k0.drew,hB.drew,trivial⟩ ?_
  refine Wb ?_
  refine zc rfl (λK hK=>?_);go_wp2_with fail
  refine(ae.out _ (hv.below (pbx))).mono ?_;rintro e w1⟨rfl,az⟩;have aa:Below w.heap.size w w1:=pbx;have af:=k0.call aa;have am:=hB.call aa;go_wp2;refine hK.out _ _ (λ_=>⟨af,am,trivial⟩) ?_;clear hK K;have ag:=(zw.loc B px sb lb pb av n t).below hN aa;have ao:=k0.lt;have al:=k1.lt;refine zc rfl (λK hK=>?_);go_wp2_with fail
  refine(aj.out _ ag.st).mono ?_;rintro e w2⟨rfl,ah,ad,h2⟩;have ay:=aa.size;have aq:¬Sub (t++ [1]) (ow kb):=by rw [ho0];exact zj (by simp)
  have ap:¬Sub (t++ [1]) (ow kc):=by rw [ho1];exact zj (by simp)
  have ai:=af.kept (ad.block af.lt aq);have an:=(k1.call aa).kept (ad.block (k1.call aa).lt ap);have ac:=ag.blkS ad;have ak:=ag.setStore s' ad h2;have ab:zp t ow w ah w2:=(zp.of_below t ow aa).trans (ad.mono (Sub.child t 1));unfold zD at ac;go_wp2;refine hK.out _ _ (λ_=>⟨ai,ac,trivial⟩) ?_;clear hK K
  refine Wb ?_
  refine zg ?_;have au:=ai.cell;have ax:=an.cell;have a0:=ac.cell;have a1:=ac.frozen;have aw:=ac.lt;go_wp2;go_ret
  have hq:=ak.setOwn (W':=w2.setCell ⟨B,11,none⟩ (.bool true)) {n with store:=s',down:=true} ((Mod.refl (λk=>k=B) w2).thenSet (p:=⟨B,11,none⟩) rfl _) (ac.set (o:=11) _) rfl rfl rfl rfl rfl rfl;exact⟨rfl,ah,ab.trans hq.1,_,_,_,_,_,hq.2⟩
 have t1:(er==31)=false:=by simp [h31]
 rw [show decide (er=31)=false by simpa using h31,Bool.or_false];replace h31:=hid h31
 cases b
 ·rw [Bool.false_and,Bool.or_false]
  go_enter func136,ntmps136
  go_wp2_with fail
  refine zd [O 0,O 1,O 2,O 3,O 4,E 5,E 6,O 7] none (λw'=>Blk w' kb #[.pointer (some ⟨B,0,none⟩)] 43/\Blk w' B #[.pointer (some ⟨px,0,none⟩),.int .i64 n.id,.int .i64 n.version,.slice none 0 0,.pointer (some ⟨sb,0,none⟩),.pointer (some ⟨lb,0,none⟩),.pointer (some ⟨pb,0,none⟩),av,.int .i64 (n.offered:Nat),.int .i64 (n.applied:Nat),.int .i64 n.wanted,.bool n.down] 98/\True) (by kernel_rfl) (by kernel_rfl) ⟨k0.drew,hB.drew,trivial⟩ ?_
  refine Wb ?_
  refine zc rfl (λK hK=>?_);go_wp2_with fail
  refine(ae.out _ (hv.below (pbx))).mono ?_;rintro e w1⟨rfl,az⟩;have aa:Below w.heap.size w w1:=pbx;have af:=k0.call aa;have am:=hB.call aa;go_wp2;refine hK.out _ _ (λ_=>⟨af,am,trivial⟩) ?_;clear hK K;have ag:=(zw.loc B px sb lb pb av n t).below hN aa;have ao:=k0.lt;have al:=k1.lt;refine zc rfl (λK hK=>?_);go_wp2_with fail
  refine(aj.out _ ag.st).mono ?_;rintro e w2⟨rfl,ah,ad,h2⟩;have ay:=aa.size;have aq:¬Sub (t++ [1]) (ow kb):=by rw [ho0];exact zj (by simp)
  have ap:¬Sub (t++ [1]) (ow kc):=by rw [ho1];exact zj (by simp)
  have ai:=af.kept (ad.block af.lt aq);have an:=(k1.call aa).kept (ad.block (k1.call aa).lt ap);have ac:=ag.blkS ad;have ak:=ag.setStore s' ad h2;have ab:zp t ow w ah w2:=(zp.of_below t ow aa).trans (ad.mono (Sub.child t 1));unfold zD at ac;go_wp2;refine hK.out _ _ (λ_=>⟨ai,ac,trivial⟩) ?_;clear hK K
  refine Wb ?_
  refine zg ?_;have au:=ai.cell;have ax:=an.cell;have a0:=ac.cell;have a1:=ac.frozen;have aw:=ac.lt;go_wp2;go_ret
  exact⟨rfl,ah,ab,_,_,_,_,_,ak⟩
 rw [Bool.true_and]
 by_cases he:er=0
 ·have t2:(er !=0)=false:=by simp [he]
  rw [show decide (er≠0)=false by simp [he],Bool.or_false];replace he:=hid he
  go_enter func136,ntmps136
  go_wp2_with fail
  refine zd [O 0,O 1,O 2,O 3,O 4,E 5,E 6,O 7] none (λw'=>Blk w' kb #[.pointer (some ⟨B,0,none⟩)] 43/\Blk w' B #[.pointer (some ⟨px,0,none⟩),.int .i64 n.id,.int .i64 n.version,.slice none 0 0,.pointer (some ⟨sb,0,none⟩),.pointer (some ⟨lb,0,none⟩),.pointer (some ⟨pb,0,none⟩),av,.int .i64 (n.offered:Nat),.int .i64 (n.applied:Nat),.int .i64 n.wanted,.bool n.down] 98/\True) (by kernel_rfl) (by kernel_rfl) ⟨k0.drew,hB.drew,trivial⟩ ?_
  refine Wb ?_
  refine zc rfl (λK hK=>?_);go_wp2_with fail
  refine(ae.out _ (hv.below (pbx))).mono ?_;rintro e w1⟨rfl,az⟩;have aa:Below w.heap.size w w1:=pbx;have af:=k0.call aa;have am:=hB.call aa;go_wp2;refine hK.out _ _ (λ_=>⟨af,am,trivial⟩) ?_;clear hK K;have ag:=(zw.loc B px sb lb pb av n t).below hN aa;have ao:=k0.lt;have al:=k1.lt;refine zc rfl (λK hK=>?_);go_wp2_with fail
  refine(aj.out _ ag.st).mono ?_;rintro e w2⟨rfl,ah,ad,h2⟩;have ay:=aa.size;have aq:¬Sub (t++ [1]) (ow kb):=by rw [ho0];exact zj (by simp)
  have ap:¬Sub (t++ [1]) (ow kc):=by rw [ho1];exact zj (by simp)
  have ai:=af.kept (ad.block af.lt aq);have an:=(k1.call aa).kept (ad.block (k1.call aa).lt ap);have ac:=ag.blkS ad;have ak:=ag.setStore s' ad h2;have ab:zp t ow w ah w2:=(zp.of_below t ow aa).trans (ad.mono (Sub.child t 1));unfold zD at ac;go_wp2;refine hK.out _ _ (λ_=>⟨ai,ac,trivial⟩) ?_;clear hK K
  refine Wb ?_
  refine zg ?_;have au:=ai.cell;have ax:=an.cell;have a0:=ac.cell;have a1:=ac.frozen;have aw:=ac.lt;go_wp2;go_ret
  exact⟨rfl,ah,ab,_,_,_,_,_,ak⟩
 have t2:(er !=0)=true:=by simpa using he
 rw [show decide (er≠0)=true by simp [he],Bool.or_true];replace he:=hid he
 go_enter func136,ntmps136
 go_wp2_with fail
 refine zd [O 0,O 1,O 2,O 3,O 4,E 5,E 6,O 7] none (λw'=>Blk w' kb #[.pointer (some ⟨B,0,none⟩)] 43/\Blk w' B #[.pointer (some ⟨px,0,none⟩),.int .i64 n.id,.int .i64 n.version,.slice none 0 0,.pointer (some ⟨sb,0,none⟩),.pointer (some ⟨lb,0,none⟩),.pointer (some ⟨pb,0,none⟩),av,.int .i64 (n.offered:Nat),.int .i64 (n.applied:Nat),.int .i64 n.wanted,.bool n.down] 98/\True) (by kernel_rfl) (by kernel_rfl) ⟨k0.drew,hB.drew,trivial⟩ ?_
 refine Wb ?_
 refine zc rfl (λK hK=>?_);go_wp2_with fail
 refine(ae.out _ (hv.below (pbx))).mono ?_;rintro e w1⟨rfl,az⟩;have aa:Below w.heap.size w w1:=pbx;have af:=k0.call aa;have am:=hB.call aa;go_wp2;refine hK.out _ _ (λ_=>⟨af,am,trivial⟩) ?_;clear hK K;have ag:=(zw.loc B px sb lb pb av n t).below hN aa;have ao:=k0.lt;have al:=k1.lt;refine zc rfl (λK hK=>?_);go_wp2_with fail
 refine(aj.out _ ag.st).mono ?_;rintro e w2⟨rfl,ah,ad,h2⟩;have ay:=aa.size;have aq:¬Sub (t++ [1]) (ow kb):=by rw [ho0];exact zj (by simp)
 have ap:¬Sub (t++ [1]) (ow kc):=by rw [ho1];exact zj (by simp)
 have ai:=af.kept (ad.block af.lt aq);have an:=(k1.call aa).kept (ad.block (k1.call aa).lt ap);have ac:=ag.blkS ad;have ak:=ag.setStore s' ad h2;have ab:zp t ow w ah w2:=(zp.of_below t ow aa).trans (ad.mono (Sub.child t 1));unfold zD at ac;go_wp2;refine hK.out _ _ (λ_=>⟨ai,ac,trivial⟩) ?_;clear hK K
 refine Wb ?_
 refine zg ?_;have au:=ai.cell;have ax:=an.cell;have a0:=ac.cell;have a1:=ac.frozen;have aw:=ac.lt;go_wp2;go_ret
 have hq:=ak.setOwn (W':=w2.setCell ⟨B,11,none⟩ (.bool true)) {n with store:=s',down:=true} ((Mod.refl (λk=>k=B) w2).thenSet (p:=⟨B,11,none⟩) rfl _) (ac.set (o:=11) _) rfl rfl rfl rfl rfl rfl;exact⟨rfl,ah,ab.trans hq.1,_,_,_,_,_,hq.2⟩
theorem Vk(B:Nat)(n:zq)(t:List Nat)(ow:Own)(w:World)(h:jH B n t ow w)(hl:n.acc.length<=536870912):
 Calls prog 94 #[.pointer (some ⟨B,0,none⟩)] w (Zt B (jR (n.acc.length+1) n) t ow w (.tuple #[])):=by
 go_enter func94,ntmps94
 go_wp2
 go_loopw [2] (λ_ wr=>∃(k:Nat)(m:zq)(ow':Own),jH B m t ow' wr/\zp t ow w ow' wr/\m.acc=n.acc/\jR (n.acc.length+1) n=jR k m/\n.acc.length<k+m.offered) (λ_ wr=>n.acc.length - (intOf (Ze (.pointer (some ⟨B,0,none⟩)) 8 wr)).toNat)
 case atStart=>exact⟨_,n,ow,h,zp.refl _ _ _,rfl,rfl,by omega⟩
 case round=>
  obtain⟨k,m,ow',⟨px,sb,lb,pb,av,hN⟩,ap,ab,ag,hk⟩:=hrel;have hB:=hN.blk;have ae:Ze (.pointer (some ⟨B,0,none⟩)) 8 wr=.int .i64 (m.offered:Nat):=by show(wr.cell? ⟨B,8,none⟩).getD undef=_;rw [hB.cell 8];rfl
  have ac:=hN.row;unfold zD at hB;obtain⟨va,vc,aw⟩:=ac.src.shape;subst aw
  by_cases hlt:m.offered<m.acc.length
  ·obtain⟨x,hx⟩:∃x,m.acc[m.offered]?=some x:=⟨_,N3 hlt⟩
   obtain⟨k',rfl⟩:∃k',k=k'+1:=⟨k - 1,by rw [ab] at hlt;omega⟩
   have ai:jR (k'+1) m=if(zf3 m.pool x).2=0 then jR k' {m with pool:=(zf3 m.pool x).1,offered:=m.offered+1} else {m with pool:=(zf3 m.pool x).1} :=by
    rw [jR,hx]
   obtain⟨g,au⟩:∃g,va=some ⟨g,0,none⟩:=by
    rcases ac.form with⟨h,h0, -⟩|⟨g,cap,h, -⟩
    ·omega
    cases h;exact⟨g,rfl⟩
   subst au;have ad:=λW hW=>zii pb m.pool (t++ [3]) ow' x W hW
   obtain⟨c0,c1,c2⟩:=Z3 ac.src hx;have t1:decide ((m.offered:Int)<(m.acc.length:Int))=true:=by simpa using hlt
   have y0:(m.offered:Int)<(m.acc.length:Int):=by omega
   have y1:(0:Int)<=(m.offered:Int):=by omega
   obtain⟨⟨p',er⟩,ao⟩:∃q,zf3 m.pool x=q:=⟨_,rfl⟩;rw [ao] at ad ai;obtain⟨⟨xi,xc⟩,xd⟩:=x;unfold vO at ad;simp only at ad c0 c1 c2 ai;simp only [Nat.zero_add] at c0 c1 c2;replace ad:=hid ad;replace hx:=hid hx;replace ao:=hid ao;replace ai:=hid ai;replace ag:=hid ag;replace ae:=hid ae;replace ab:=hid ab;replace ac:=hid ac;go_wp2_with fail
   refine zd [O 0,O 1,O 2,O 3,O 4,O 5,O 6,O 7,O 8,O 9,O 10,O 11,O 12,O 13,O 14,O 15,O 16,O 17,O 18,O 19,O 20,O 21,O 22,O 23,O 24,E 25,O 26,O 27] none (λw'=>Blk w' B #[.pointer (some ⟨px,0,none⟩),.int .i64 m.id,.int .i64 m.version,.slice none 0 0,.pointer (some ⟨sb,0,none⟩),.pointer (some ⟨lb,0,none⟩),.pointer (some ⟨pb,0,none⟩),.slice (some ⟨g,0,none⟩) m.acc.length vc,.int .i64 (m.offered:Nat),.int .i64 (m.applied:Nat),.int .i64 m.wanted,.bool m.down] 98/\w'.cell? ⟨g,m.offered*3,none⟩=some (.int .i64 xi)/\w'.cell? ⟨g,m.offered*3+1,none⟩=some (.int .u32 xc)/\w'.cell? ⟨g,m.offered*3+2,none⟩=some (.string (bs xd))/\True) (by kernel_rfl) (by kernel_rfl) ⟨hB.drew,c0,c1,c2,trivial⟩ ?_
   refine Wo ?_
   refine zc rfl (λK hK=>?_);go_wp2_with fail
   refine(ad.out _ ((jY.loc pb m.pool (t++ [3])).below hN.pool (zm (N2 _ _)))).mono ?_;rintro e w2⟨rfl,aq,aj,h2⟩;have ar:=(zw.loc B px sb lb pb _ m t).below hN (zm (N2 wr.heap.size wr));have ah:=ar.blkS aj;unfold zD at ah;have ak:=ar.setPool p' aj h2;obtain⟨an,al,am⟩:=Z3 ak.row.src hx.out;simp only [Nat.zero_add] at an al am;go_wp2;refine hK.out _ _ (λ_=>⟨ah,an,al,am,trivial⟩) ?_;clear hK K c0 c1 c2 an al am
   by_cases he:er=0
   ·have aa:=ai.out
    rw [if_pos he] at aa;have t2:(er==0)=true:=by simp [he]
    replace he:=hid he;replace aa:=hid aa
    refine Wo ?_
    refine zg ?_;have az:=ah.cell;have a1:=ah.frozen;have ay:=ah.lt
    have a0:IntKind.i64.wrap ((m.offered:Int)+1)=(m.offered:Int)+1:=by
     have h1:=ab.out;have h2:m.acc.length<=536870912:=by rw [h1];exact hl
     rw [N8];omega
    go_wp2
    go_roundw
    case rel=>
     have af:(m.offered:Int)+1=((m.offered+1:Nat):Int):=by omega
     rw [af];have hq:=ak.setOwn (W':=w2.setCell ⟨B,8,none⟩ (.int .i64 ((m.offered+1:Nat):Int))) {m with pool:=p',offered:=m.offered+1} ((Mod.refl (λk=>k=B) w2).thenSet (p:=⟨B,8,none⟩) rfl _) (ah.set (o:=8) _) rfl rfl rfl rfl rfl rfl;exact⟨k',{m with pool:=p',offered:=m.offered+1},aq,⟨_,_,_,_,_,hq.2⟩,ap.trans ((zp.drew t ow' wr).trans ((aj.mono (Sub.child t 3)).trans hq.1)),ab.out,ag.out.trans aa.out,by show n.acc.length<k'+(m.offered+1);omega⟩
    case measure=>
     have af:(m.offered:Int)+1=((m.offered+1:Nat):Int):=by omega
     rw [ae.out]
     have ax:Ze (.pointer (some ⟨B,0,none⟩)) 8 (w2.setCell ⟨B,8,none⟩ (.int .i64 ((m.offered+1:Nat):Int)))=.int .i64 ((m.offered+1:Nat):Int):=by
      show((w2.setCell ⟨B,8,none⟩ _).cell? ⟨B,8,none⟩).getD undef=_
      rw [(ah.set (o:=8) _).cell 8];rfl
     rw [af,ax];simp only [intOf,Int.toNat_natCast];have:=ab.out;rw [this] at hlt;omega
   have aa:=ai.out
   rw [if_neg he] at aa;have t2:(er==0)=false:=by simp [he]
   replace he:=hid he;replace aa:=hid aa
   refine Wo ?_
   refine zg ?_;go_wp2;go_end0
   rw [ag.out,aa.out];exact⟨rfl,aq,ap.trans ((zp.drew t ow' wr).trans (aj.mono (Sub.child t 3))),_,_,_,_,_,ak⟩
  have hR:jR k m=m:=by
   cases k with
   |zero=>rfl
   |succ k=>rw [jR,List.getElem?_eq_none (by omega)]
  have t1:decide ((m.offered:Int)<(m.acc.length:Int))=false:=by simp;omega
  replace ac:=hid ac;replace ag:=hid ag;replace ae:=hid ae;replace ab:=hid ab;replace hR:=hid hR;go_wp2_with fail
  refine zd [O 0,O 1,O 2,O 3,O 4,O 5,O 6,O 7,O 8,O 9,O 10,O 11,O 12,O 13,O 14,O 15,O 16,O 17,O 18,O 19,O 20,O 21,O 22,O 23,O 24,E 25,O 26,O 27] none (λw'=>Blk w' B #[.pointer (some ⟨px,0,none⟩),.int .i64 m.id,.int .i64 m.version,.slice none 0 0,.pointer (some ⟨sb,0,none⟩),.pointer (some ⟨lb,0,none⟩),.pointer (some ⟨pb,0,none⟩),.slice va m.acc.length vc,.int .i64 (m.offered:Nat),.int .i64 (m.applied:Nat),.int .i64 m.wanted,.bool m.down] 98/\True) (by kernel_rfl) (by kernel_rfl) ⟨hB.drew,trivial⟩ ?_
  refine Wq ?_
  refine Wm ?_
  refine zc rfl (λK hK=>?_);go_wp2;refine hK.out _ _ (λ_=>⟨hB.drew,trivial⟩) ?_;clear hK K
  refine Wq ?_
  refine Wm ?_
  refine Wq ?_
  refine zg ?_;go_wp2;go_end0
  rw [ag.out,hR.out];exact⟨rfl,ow',ap.trans (zp.drew t ow' wr),_,_,_,_,_,(zw.loc B px sb lb pb _ m t).below hN (zm (N2 wr.heap.size wr))⟩
theorem X4(B:Nat)(i:Int)(w:World):Calls prog 143 #[.pointer (some ⟨B,0,none⟩),.int .i64 i] w λe w'=>
 e=.returned (.func (.func 188) #[] #[.pointer (some ⟨w.heap.size+1,0,none⟩),.pointer (some ⟨w.heap.size,0,none⟩)])/\w'=(w.alloc (.cells #[.pointer (some ⟨B,0,none⟩)] 300)).alloc (.cells #[.int .i64 i] 3):=by
 go_enter func143,ntmps143
 go_wp2;go_ret
 exact⟨rfl,rfl⟩
theorem VL(ib qb B:Nat)(p:xM)(t:List Nat)(i0:Nat)(hi:i0<=10001)(hk:yq p.known):
 zaF Fence.wide 2 prog 188 #[.pointer (some ⟨ib,0,none⟩),.pointer (some ⟨qb,0,none⟩)] (λx:List UInt8=> #[.string (bs x)])
  (λ(k:Nat) x=>zH (k:Int) p.known=some x) (λk _=>k+1) (λk=>zH (k:Int) p.known=none)
  (λ_ W=>Blk W ib #[.int .i64 (i0:Nat)] 3/\Blk W qb #[.pointer (some ⟨B,0,none⟩)] 300/\∃px ow,W.cell? ⟨B,0,none⟩=some (.pointer (some ⟨px,0,none⟩))/\yI px p t ow W) i0:=by
 intro lp J Jx W hJ hJx hRd hY h0;have e0:=(hRd _ _ _ h0).1.cell;have hF:Fence.wide.fn 188:=trivial;have ag:Fence.wide.round=none:=rfl;refine callsIn_of_wp func188 rfl hF ?_ ag;simp only [ntmps188,R8,Nat.reduceAdd,Nat.reduceSub]
 gi_wp2
 gi_loopw [4] (λp4 wr=>∃(k:Nat)(X:Nat->Prop),p4=.int .i64 (k:Nat)/\k<=10001/\J k X wr) (λp4 _=>10001 - (intOf p4).toNat)
 case atStart=>exact⟨i0,_,rfl,hi,h0⟩
 case round=>
  obtain⟨k,X,rfl,ah,ab⟩:=hrel;clear e0;obtain⟨-,kq,px,ow,cB,hP⟩:=hRd _ _ _ ab;have eq:=kq.cell;have aa:=λW hW=>YH px p t ow (k:Int) W hW
  cases hl:zH (k:Int) p.known with
  |none=>
   rw [hl] at aa;simp only [Option.getD_none,Option.isSome_none] at aa;replace aa:=hid aa;replace hl:=hid hl
   gi_wp2_with fail
   refine(callsIn_wide.2 (aa.out _ hP)).mono ?_;rintro e w1⟨rfl,ac⟩;have ad:J k X w1:=hJ _ _ _ _ _ ab (Mod.of_below X ac) (λk h=>.inl h)
   gi_wp2
   refine bodyPost_ret (results_none rfl _ _ _) rfl ?_;exact⟨⟨_,rfl⟩,.inl ⟨k,X,hl.out,ad⟩⟩
  |some x=>
   rw [hl] at aa;simp only [Option.getD_some,Option.isSome_some] at aa;have aj:=hk _ _ hl;have ai:IntKind.i64.wrap ((k:Int)+1)=(k:Int)+1:=by rw [N8];omega
   replace aa:=hid aa
   gi_wp2_with fail
   refine(callsIn_wide.2 (aa.out _ hP)).mono ?_;rintro e w1⟨rfl,ac⟩;have ad:J k X w1:=hJ _ _ _ _ _ ab (Mod.of_below X ac) (λk h=>.inl h);obtain⟨fn,tmps,assign,body,hy,hR⟩:=hY k x X w1 ad hl;replace hl:=hid hl
   gi_wp2
   refine hR.mono ?_;rintro e W'(⟨rfl,af, -⟩|⟨rfl,ae⟩)
   ·clear hR hy
    gi_wp2
    go_roundw
    case rel=>exact⟨k+1,_,by simp,by omega,af⟩
    case measure=>simp [intOf];omega
   gi_wp2
   refine bodyPost_ret (results_none rfl _ _ _) rfl ?_;exact⟨⟨_,rfl⟩,.inr ⟨_,ae⟩⟩
theorem zcQ(B:Nat)(L:zQ)(t:List Nat)(ow:Own)(w:World)(h:zL B L t ow w)(hl:L.fold.eras.length<=536870912):Calls prog 128 #[.pointer (some ⟨B,0,none⟩)] w λe w'=>
 ∃v',e=.returned v'/\Row w' 197 3 v' L.fold.eras.length (L.fold.eras.flatMap zX)/\Below w.heap.size w w'/\(∀g,v'.ownBlock=some g->w.heap.size<=g):=by
 have hn:=Jj B L t ow w h;obtain⟨hk,fb,hv,lv,hB,hF, -⟩:=h;have he:=ze1 fb L.fold (t++ [0]) ow w hF hl;have e0:=hB.cell;unfold jQ at e0;replace hn:=hid hn;replace he:=hid he;replace hF:=hid hF;clear hB hk
 go_enter func128,ntmps128
 go_wp2_with fail
 refine hn.out.mono ?_;rintro e w1⟨rfl,aa⟩;obtain rfl:=aa.symm;go_wp2_with fail
 refine he.out.mono ?_;rintro e w2⟨v',rfl,h1,h2,h3⟩;replace h3:=hid h3;go_wp2;go_ret
 exact⟨_,rfl,h1,h2,h3.out⟩
theorem ziF {W:World}{l:List ZJ}{b off cap:Nat}(h:Src W (.slice (some ⟨b,off,none⟩) l.length cap) 3 l.length (l.flatMap zX)){k:Nat}{x:ZJ}(hx:l[k]?=some x):
 W.cell? ⟨b,off+k*3,none⟩=some (.int .u32 x.1)/\W.cell? ⟨b,off+k*3+1,none⟩=some (.int .i64 x.2.1)/\W.cell? ⟨b,off+k*3+2,none⟩=some (.int .i64 x.2.2):=by
 rcases h.2 with⟨h, -⟩|⟨b',off',cap',h, -,hr⟩
 ·cases h
 cases h
 have aa:∀j u,(zX x)[j]?=some u->j<3->W.cell? ⟨b,off+(k*3+j),none⟩=some u:=λj u hu hj=>hr _ u ((Jg l k x hx j hj).trans hu)
 exact⟨aa 0 _ rfl (by omega),aa 1 _ rfl (by omega),aa 2 _ rfl (by omega)⟩
theorem ziG {px sb lb pb:Nat}{av:Value}(B:Nat)(n:zq)(t:List Nat)(ow:Own)(e:jz)(mv:Value)(w:World)(h:zw B px sb lb pb av n t ow w)(hl:n.loc.fold.eras.length<=536870912):
 Calls prog 216 #[.pointer (some ⟨B,0,none⟩),ZS e mv] w λr w'=>r=.returned (.int .i64 (qi n e))/\Below w.heap.size w w':=by
 have hB:=h.blk;have ab:=λW hW=>zcQ lb n.loc (t++ [2]) ow W hW hl
 have ac:=h.lo;unfold zD at hB;have e0:=hB.cell;have l0:=hB.lt;unfold ZS qi;clear h hB;replace ac:=hid ac;replace ab:=hid ab
 by_cases h2:e.kind=2
 ·have t1:(e.kind==2)=true:=by simp [h2]
  rw [if_pos h2];replace h2:=hid h2
  go_enter func216,ntmps216
  go_wp2;go_ret
  exact⟨rfl,pbx⟩
 have t1:(e.kind==2)=false:=by simp [h2]
 rw [if_neg h2];replace h2:=hid h2
 by_cases h3:e.kind=3
 ·have t2:(e.kind==3)=true:=by simp [h3]
  rw [if_pos h3];replace h3:=hid h3
  generalize n.loc.fold.eras=l at*
  by_cases h4:1<l.length
  ·have t3:decide ((1:Int)<(l.length:Int))=true:=by simp;omega
   rw [if_pos h4];obtain⟨x,hx⟩:∃x,l[l.length - 2]?=some x:=⟨_,N3 (by omega)⟩;rw [hx,Option.getD_some];have y0:(0:Int)<=(l.length:Int) - 2:=by omega
   have y1:(l.length:Int) - 2<(l.length:Int):=by omega
   have af:IntKind.i64.wrap ((l.length:Int) - 2)=(l.length:Int) - 2:=by rw [N8];omega
   have ag:((l.length:Int) - 2).toNat=l.length - 2:=by omega
   replace hx:=hid hx
   go_enter func216,ntmps216
   go_wp2_with fail
   refine(ab.out _ ((zL.loc lb n.loc _).below ac.out (pbx))).mono ?_;rintro r w1⟨v',rfl,aa,ae, -⟩;have ad:Below w.heap.size w w1:=pbx
   obtain⟨g,cap,rfl⟩:∃g cap,v'=.slice (some ⟨g,0,none⟩) l.length cap:=by
    rcases aa.form with⟨-,h0, -⟩|⟨g,cap,h, -⟩
    ·omega
    exact⟨g,cap,h⟩
   obtain⟨c0,c1,c2⟩:=ziF aa.src hx.out;simp only [Nat.zero_add] at c0 c1 c2;replace aa:=hid aa;go_wp2;go_ret
   exact⟨rfl,ad⟩
  have t3:decide ((1:Int)<(l.length:Int))=false:=by simp;omega
  rw [if_neg h4]
  go_enter func216,ntmps216
  go_wp2_with fail
  refine(ab.out _ ((zL.loc lb n.loc _).below ac.out (pbx))).mono ?_;rintro r w1⟨v',rfl,aa,ae, -⟩;have ad:Below w.heap.size w w1:=pbx;obtain⟨va,vc,rfl⟩:=aa.src.shape;replace aa:=hid aa;go_wp2;go_ret
  exact⟨rfl,ad⟩
 have t2:(e.kind==3)=false:=by simp [h3]
 rw [if_neg h3];replace h3:=hid h3
 go_enter func216,ntmps216
 go_wp2;go_ret
 exact⟨rfl,pbx⟩
theorem yC.node {t:List Nat}{i B:Nat}{A:Own->World->Prop}(hA:yC (t++ [i]) A){ow ow':Own}{W W':World}(h:A ow W)(ho:ow B=t)(hM:Mod (λk=>k=B) W W')(hag:∀k,k<W.heap.size->ow' k=ow k):A ow' W':=
 hA _ _ _ _ h hM.size (λk hk hs=>⟨hag k hk,hM.block k hk (λe=>by subst e;rw [ho] at hs;exact zO t i hs)⟩)
def ziH(B:Nat)(id v:Int)(sv:Value)(down:Bool)(t:List Nat)(ow:Own)(w:World)(e:Ending)(w':World):Prop:=
 e=.returned (.int .i64 0)/\∃ow' px lb pb,(∀k,k<w.heap.size->ow' k=ow k)/\Mod (λk=>k=B) w w'/\
  Blk w' B #[.pointer (some ⟨px,0,none⟩),.int .i64 id,.int .i64 v,.slice none 0 0,sv,.pointer (some ⟨lb,0,none⟩),.pointer (some ⟨pb,0,none⟩),.slice none 0 0,.int .i64 0,.int .i64 0,.int .i64 0,.bool down] 98/\
  yI px qx (t++ [0]) ow' w'/\zL lb (zjz v (zt v)) (t++ [2]) ow' w'/\jY pb Zj (t++ [3]) ow' w'
theorem zgG(a:Addr)(B:Nat)(c0 c5 c6 c7 c8 c9 c10:Value)(id v:Int)(sv:Value)(down:Bool)(t:List Nat)(ow:Own)(w:World)(hv:known v=true)(he:jv w a)(ho:ow B=t)
 (hB:Blk w B #[c0,.int .i64 id,.int .i64 v,.slice none 0 0,sv,c5,c6,c7,c8,c9,c10,.bool down] 98):
 Calls prog 44 #[.pointer (some ⟨B,0,none⟩)] w (ziH B id v sv down t ow w):=by
 have ao:=zj0 a v hv (t++ [2]) ow w he;have ar:=λaa W=>ziB (t++ [0]) aa W
 have au:=λaa W=>zid (t++ [3]) aa W
 have a1:=hB.lt;have e0:=hB.cell;replace ao:=hid ao;replace ar:=hid ar;replace au:=hid au;replace he:=hid he
 go_enter func44,ntmps44
 go_wp2_with fail
 refine ao.out.mono ?_;rintro e w1⟨lb,aa,rfl,az,aq,hL⟩;have ay:=hB.call aq;have a2:aa B=t:=(az.agree B a1).trans ho;go_wp2_with fail
 refine(ar.out aa _).mono ?_;rintro e w2⟨px,an,rfl,ap,ac,hP,bd⟩;have aj:=ay.call ac;have al:an B=t:=(ap.agree B ay.lt).trans a2;have a6:zL lb (zjz v (zt v)) (t++ [2]) an w2:=zL.loc _ _ _ _ _ _ _ hL ac.size (λk hk _=>⟨ap.agree k hk,ac.block k hk⟩);have am:=ze aq ac;have a5:=aj.frozen;have a8:=aj.lt;have a3:=aj.cell;clear e0;go_wp2_with fail
 obtain⟨W3,ah⟩:∃W3,W3=(w2.setCell ⟨B,0,none⟩ (.pointer (some ⟨px,0,none⟩))).setCell ⟨B,5,none⟩ (.pointer (some ⟨lb,0,none⟩)):=⟨_,rfl⟩;have aw:=(aj.set (o:=0) (.pointer (some ⟨px,0,none⟩))).set (o:=5) (.pointer (some ⟨lb,0,none⟩));rw [← ah] at aw;have ab:Mod (λk=>k=B) w2 W3:=by rw [ah];exact((Mod.refl (λk=>k=B) w2).thenSet (p:=⟨B,0,none⟩) rfl _).thenSet (p:=⟨B,5,none⟩) rfl _
 rw [← ah];clear ah a5 a3;refine(au.out an _).mono ?_;rintro e w4⟨pb,ak,rfl,af,ag,hQ,be⟩;have ai:=aw.call ag;have a4:yI px qx (t++ [0]) ak w4:=yC.node (yI.loc px qx (t++ [0])) hP al (ab.thenCall ag) (λk hk=>af.agree k (by have:=ab.size;omega));have a0:zL lb (zjz v (zt v)) (t++ [2]) ak w4:=yC.node (zL.loc lb _ (t++ [2])) a6 al (ab.thenCall ag) (λk hk=>af.agree k (by have:=ab.size;omega));have ax:ak B=t:=(af.agree B aw.lt).trans al;have bf:=ai.frozen;have bc:=ai.cell;have a9:=ai.lt;go_wp2;go_ret
 have ae:Mod (λk=>k=B) w4 (((((w4.setCell ⟨B,6,none⟩ (.pointer (some ⟨pb,0,none⟩))).setCell ⟨B,7,none⟩ (.slice none 0 0)).setCell ⟨B,8,none⟩ (.int .i64 0)).setCell ⟨B,9,none⟩ (.int .i64 0)).setCell ⟨B,10,none⟩ (.int .i64 0)):=
  (((((Mod.refl (λk=>k=B) w4).thenSet (p:=⟨B,6,none⟩) rfl _).thenSet (p:=⟨B,7,none⟩) rfl _).thenSet (p:=⟨B,8,none⟩) rfl _).thenSet (p:=⟨B,9,none⟩) rfl _).thenSet (p:=⟨B,10,none⟩) rfl _
 have k5:=((((ai.set (o:=6) (.pointer (some ⟨pb,0,none⟩))).set (o:=7) (.slice none 0 0)).set (o:=8) (.int .i64 0)).set (o:=9) (.int .i64 0)).set (o:=10) (.int .i64 0)
 have ad:Mod (λk=>k=B) w (((((w4.setCell ⟨B,6,none⟩ (.pointer (some ⟨pb,0,none⟩))).setCell ⟨B,7,none⟩ (.slice none 0 0)).setCell ⟨B,8,none⟩ (.int .i64 0)).setCell ⟨B,9,none⟩ (.int .i64 0)).setCell ⟨B,10,none⟩ (.int .i64 0)):=
  ((Mod.of_below (λk=>k=B) am).trans (ab.thenCall ag) (λ_ _ e=>e) (λ_ _ e=>e)).trans ae (λ_ _ e=>e) (λ_ _ e=>e)
 have ba:=aq.size;have bb:=ac.size;have a7:=ab.size;refine⟨rfl,ak,px,lb,pb,λk hk=>?_,ad,k5,yC.node (yI.loc px qx (t++ [0])) a4 ax ae (λ_ _=>rfl),yC.node (zL.loc lb _ (t++ [2])) a0 ax ae (λ_ _=>rfl),yC.node (jY.loc pb Zj (t++ [3])) hQ ax ae (λ_ _=>rfl)⟩;rw [af.agree k (by omega),ap.agree k (by omega),az.agree k hk]
def zer(id v cap:Int)(t:List Nat)(ow:Own)(w:World)(e:Ending)(w':World):Prop:=
 ∃B ow',e=.returned (.tuple #[.pointer (some ⟨B,0,none⟩),.int .i64 0])/\zp t ow w ow' w'/\Below w.heap.size w w'/\jH B (zhq id v cap [] (zt v)) t ow' w'/\w.heap.size<=B
theorem zkw(a:Addr)(id v cap:Int)(hi:0<=id)(hi2:id<16)(hv:known v=true)(h1:64<=cap)(h2:cap<=1048576)(t:List Nat)(ow:Own)(w:World)(he:jv w a):
 Calls prog 24 #[.int .i64 id,.int .i64 v,.int .i64 cap,.slice none 0 0] w (zer id v cap t ow w):=by
 have ag:=ziu cap h1 h2 (t++ [1]) ow w;have ad:=λW=>Tryz.slices_Clone_int_nil 0 0 W
 have t1:decide (id<0)=false:=by simp;omega
 have t2:decide (16<=id)=false:=by simp;omega
 replace ag:=hid ag;replace ad:=hid ad
 go_enter func24,ntmps24
 go_wp2_with fail
 refine ag.out.mono ?_;rintro e w1⟨sb,ak,rfl,aq,ah,hS,au⟩;go_wp2_with fail
 refine(ad.out _).mono ?_;rintro e w2⟨rfl,ar⟩;obtain rfl:=ar.symm;have aj:Blk (w1.alloc (.cells #[.pointer none,.int .i64 id,.int .i64 v,.slice none 0 0,.pointer (some ⟨sb,0,none⟩),.pointer none,.pointer none,.slice none 0 0,.int .i64 0,.int .i64 0,.int .i64 0,.bool false] 98)) w1.heap.size _ 98:=Blk.new rfl;have ac:Below w.heap.size w (w1.alloc (.cells #[.pointer none,.int .i64 id,.int .i64 v,.slice none 0 0,.pointer (some ⟨sb,0,none⟩),.pointer none,.pointer none,.slice none 0 0,.int .i64 0,.int .i64 0,.int .i64 0,.bool false] 98)):=zi ah _;obtain⟨W2,ab⟩:∃W2,W2=w1.alloc (.cells #[.pointer none,.int .i64 id,.int .i64 v,.slice none 0 0,.pointer (some ⟨sb,0,none⟩),.pointer none,.pointer none,.slice none 0 0,.int .i64 0,.int .i64 0,.int .i64 0,.bool false] 98):=⟨_,rfl⟩;have am:jF sb (Zi cap) (t++ [1]) (ak.ext w1.heap.size (λk=>k=w1.heap.size) t) W2:=jF.loc _ _ _ _ _ _ _ hS (by rw [ab];simp) (λk hk _=>⟨Own.ext_old hk,by rw [ab];exact U4 _ _ _ hk⟩);have an:W2.heap.size=w1.heap.size+1:=by rw [ab];simp
 rw [← ab] at aj ac;have aa:=zgG a w1.heap.size _ _ _ _ _ _ _ id v _ false t (ak.ext w1.heap.size (λk=>k=w1.heap.size) t) W2 hv (he.below ac he.lt) (Own.ext_new (N0 _) rfl) aj;replace aa:=hid aa;go_wp2_with fail
 rw [← ab];clear ab;refine aa.out.mono ?_;rintro e w3⟨rfl,ae,px,lb,pb,af,hM,k3,hP,hL,hQ⟩;have ao:=ah.size;go_wp2;go_ret2
 have ai:Below w.heap.size w w3:=ac.trans (hM.to_below (by omega) (λk _ e=>by omega));have ap:jF sb (Zi cap) (t++ [1]) ae w3:=yC.node (jF.loc sb _ (t++ [1])) am (Own.ext_new (N0 _) rfl) hM af;have al:ae w1.heap.size=t:=(af _ (by omega)).trans (Own.ext_new (N0 _) rfl);refine⟨w1.heap.size,ae,rfl,⟨Mod.of_below _ ai,λk hk=>?_⟩,ai,⟨px,sb,lb,pb,.slice none 0 0,k3,hP,ap,hL,hQ,jc _ _ _,al,by simp [Value.ownBlock],rfl⟩,ao⟩;rw [af k (by omega),Own.ext_old (by omega),aq.agree k hk]
def YK(B:Nat)(R:zq×Int)(t:List Nat)(ow:Own)(w W:World)(e:Ending)(w':World):Prop:=
 e=.returned (.int .i64 R.2)/\∃ow',zp t ow w ow' w'/\jH B R.1 t ow' w'/\∀k,w.heap.size<=k->k<W.heap.size->w'.heap[k]?=W.heap[k]?/\ow' k=[]
theorem YL(B:Nat)(n:zq)(t:List Nat)(ht:t≠ [])(ow:Own)(w:World)(h:jH B n t ow w)(hcap:vx n.store)(b:Bool)(ts:List (List UInt8))(h0:0<ts.length)(hn:ts.length<=1000)(hl:ts.flatten.length<=1073741000)
 (W:World) (hb:Below w.heap.size w W) (kb kc g:Nat) (h1:w.heap.size<=kb) (h2:w.heap.size<=kc) (k0:Blk W kb #[.pointer (some ⟨B,0,none⟩)] 43) (k1:Blk W kc #[.bool b] 4) (kg:Blk W g (yh ts).toArray 9):
 Calls prog 136 #[.slice (some ⟨g,0,none⟩) ts.length ts.length,.pointer (some ⟨kb,0,none⟩),.pointer (some ⟨kc,0,none⟩)] W (YK B (yk n b ts.flatten) t ow w W):=by
 have aa:Src W (.slice (some ⟨g,0,none⟩) ts.length ts.length) 1 ts.length (yh ts):=by
  have:=jD (n:=ts.length) (size:=1) (cap:=ts.length) kg (by simp [yh]) (N0 _)
  simpa using this
 refine(zkv B n t (ow.cut w) b kb kc _ ts W ((jH.loc B n t).cut h hb) hcap k0 k1 (Own.cut_new h1) (Own.cut_new h2) aa h0 hn hl).mono ?_;rintro e w'⟨rfl,ow',hs,hN⟩;exact⟨rfl,ow',zp.wrap hb hs,hN,λk a b=>hs.free ht a b⟩
theorem zcR {p:xM}{i:Int}{b:Nat}(h:(zA p i b).2.2.2≠0):(zA p i b).1=p:=by
 unfold zA at*
 split at h
 ·rename_i h0;rw [if_pos h0]
 rename_i h0;rw [if_neg h0]
 split at h
 ·rename_i h1;rw [if_pos h1]
 simp at h
theorem ziI {p:xM}{i:Int}{b:Nat}{x:List UInt8}(h:(vJ p i b x).2.2≠0):(vJ p i b x).1=p:=by
 unfold vJ at*
 split at h
 ·rename_i h0;rw [if_pos h0]
 rename_i h0;rw [if_neg h0]
 split at h
 ·rename_i h1;rw [if_pos h1]
 simp at h
theorem ziJ(p:xM)(i:Int)(b:Nat)(x:List UInt8):(vJ p i b x).2.1.length<=13+x.length:=by
 unfold vJ
 split
 ·simp
 split
 ·simp
 simp [xI,le8,zY];omega
theorem zcS(p:xM)(i:Int)(b:Nat):(zA p i b).2.2.1.length<=13:=by
 unfold zA
 split
 ·simp
 split
 ·simp
 simp [xI,le8,zY]
theorem ziK {px sb lb pb:Nat}{av:Value}(B:Nat)(n:zq)(t:List Nat)(ht:t≠ [])(ow:Own)(i:Int)(b:Nat)(hb:b<18446744073709551616)(x:List UInt8)(hx:x.length<=1000000)(w:World)(hN:zw B px sb lb pb av n t ow w)(hcap:vx n.store):
 Calls prog 201 #[.pointer (some ⟨B,0,none⟩),.int .i64 i,.int .u64 b,.string (bs x)] w (Zt B (yH n i b x).1 t ow w (.int .i64 (yH n i b x).2)):=by
 have hB:=hN.blk;have hr:=xu w hB;have aa:=λW hW=>zgB px n.pax (t++ [0]) (by simp) ow i b hb x hx W hW
 have ab:yH n i b x=if n.down then(n,170)else if(vJ n.pax i b x).2.2≠0 then(n,(vJ n.pax i b x).2.2)else yk {n with pax:=(vJ n.pax i b x).1} true (vJ n.pax i b x).2.1:=rfl
 have ag:=ziJ n.pax i b x;have ac:= @ziI n.pax i b x;unfold zD at hB;unfold Yp at hr;have e0:=hB.cell;obtain⟨⟨p',rc,er⟩,aj⟩:∃q,vJ n.pax i b x=q:=⟨_,rfl⟩;rw [aj] at aa ab ag ac;unfold X0 at aa;simp only at aa ab ag ac;replace aj:=hid aj;replace aa:=hid aa;replace ac:=hid ac
 by_cases hd:n.down=true
 ·rw [if_pos hd] at ab
  rw [hd] at hr;rw [ab];replace ab:=hid ab;replace hr:=hid hr;replace hd:=hid hd
  go_enter func201,ntmps201
  go_wp2_with fail
  refine hr.out.mono ?_;rintro e w1⟨rfl,ae⟩;obtain rfl:=ae.symm;go_wp2;go_ret
  exact⟨rfl,ow,zp.refl _ _ _,_,_,_,_,_,hN⟩
 have ai:n.down=false:=by simpa using hd
 rw [if_neg hd] at ab;rw [ai] at hr;replace hr:=hid hr;replace hd:=hid hd;replace ai:=hid ai
 by_cases he:er=0
 ·subst he
  rw [if_neg (by simp)] at ab;rw [ab];have ad:=λah w1 h1 W h2 kb kc g h3 h4 k0 k1 kg=>YL B {n with pax:=p'} t ht ah w1 h1 hcap true [rc] (by simp) (by simp) (by simp;omega) W h2 kb kc g h3 h4 k0 k1 kg
  rw [show [rc].flatten=rc by simp] at ad;unfold YK at ad;replace ab:=hid ab
  generalize yk {n with pax:=p'} true rc=R at*
  replace ad:=hid ad
  go_enter func201,ntmps201
  go_wp2_with fail
  refine hr.out.mono ?_;rintro e w1⟨rfl,ae⟩;obtain rfl:=ae.symm;go_wp2_with fail
  refine(aa.out _ hN.pax).mono ?_;rintro e w1⟨rfl,ah,af,h1⟩;have ak:=hN.setPax p' af h1;go_wp2_with fail
  refine(xw _ _ _).mono ?_;rintro e w2⟨rfl,rfl⟩;go_wp2_with fail
  refine(ad.out ah w1 ⟨_,_,_,_,_,ak⟩ (((w1.alloc (.cells #[.pointer (some ⟨B,0,none⟩)] 43)).alloc (.cells #[.bool true] 4)).alloc (.cells #[.string (bs rc)] 9)) (pbx) w1.heap.size (w1.heap.size+1) _ (N0 _) (by omega) (bkx) (bkx) (Blk.new (by simp))).mono ?_;rintro e w3⟨rfl,an,al,ao, -⟩;go_wp2;go_ret
  exact⟨rfl,an,(af.mono (Sub.child t 0)).trans al,ao⟩
 rw [if_pos he] at ab
 rw [ab];have t1:(er !=0)=true:=by simpa using he
 have am:=ac.out he;subst am;replace ab:=hid ab;replace he:=hid he
 go_enter func201,ntmps201
 go_wp2_with fail
 refine hr.out.mono ?_;rintro e w1⟨rfl,ae⟩;obtain rfl:=ae.symm;go_wp2_with fail
 refine(aa.out _ hN.pax).mono ?_;rintro e w1⟨rfl,ah,af,h1⟩;have ak:=hN.setPax _ af h1;go_wp2;go_ret
 exact⟨rfl,ah,af.mono (Sub.child t 0),_,_,_,_,_,ak⟩
