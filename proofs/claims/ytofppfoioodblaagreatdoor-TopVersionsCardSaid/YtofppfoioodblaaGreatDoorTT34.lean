/- PARTS OF THE PROOF. -/
import Derived.Test.YtofppfoioodblaaGreatDoorTT32
import Derived.Test.YtofppfoioodblaaGreatDoorTT33
set_option maxRecDepth 8000
set_option maxHeartbeats 4000000
open Go.Proofs.Tryz
namespace Go.Proofs.YtofppfoioodblaaGreatDoor
open Go Go.RowKit Go.Shelf Go.Extern.Stop Go.Stop Go.Extern
attribute [local go_sem] Oper.semAt_some zv zm
theorem zhx:∀s<16,∀d<16,bits .and .u8 ((s*16+d:Nat):Int) 15=((d:Nat):Int):=by decide
def zfI(kb xb:UInt8)(l4 data:List UInt8):List UInt8:=72::1::kb::xb::0::0::0::0::0::0::0::0::0::0::0::0::(l4++data)
def zkU(k s d:Nat)(b:List UInt8)(fb zb:Nat)(W0:World)(q:Nat)(X:Nat->Prop)(W:World):Prop:=
 Fr (λj=>j=fb∨j=zb) W0 X W/\q<=4/\Blk W fb #[.int .i64 1,.int .i64 k,.int .i64 s,.int .i64 d,.int .u32 0,.int .u32 0,.int .u32 0,.int .u32 0,.string (bs b)] 182/\Blk W zb #[.int .u32 (if q<=3 then 0 else b.length:Nat)] 35
theorem zkU.step {k s d:Nat}{b:List UInt8}{fb zb:Nat}{W0:World}{q:Nat}{X X':Nat->Prop}{W W':World}(h:zkU k s d b fb zb W0 q X W)(hm:Mod X W W')(hx:∀k,X' k->X k∨(W.heap.size<=k/\k<W'.heap.size))(h1:fb<W0.heap.size)(h2:zb<W0.heap.size):zkU k s d b fb zb W0 q X' W':=
 ⟨h.1.step hm hx,h.2.1,h.2.2.1.kept (h.1.block hm h1),h.2.2.2.kept (h.1.block hm h2)⟩
theorem zhy(k s d:Nat)(hk:k<=31)(hs:s<16)(hd:d<16)(b:List UInt8)(hb:b.length<=4096)(w:World):
 Calls prog 148 #[.string (bs (zfI (yU k) (yU (s*16+d:Nat)) (le4 b.length) b))] w λe w'=>e=.returned (.tuple #[Jj k s d b,.nilIface])/\Below w.heap.size w w':=by
 obtain⟨B,hB⟩:∃B,zfI (yU k) (yU (s*16+d:Nat)) (le4 b.length) b=B:=⟨_,rfl⟩;have hbk:=v7 (i:=(k:Int)) (by omega) (by omega);have hbx:=v7 (i:=((s*16+d:Nat):Int)) (by omega) (by omega);rw [Int.toNat_natCast] at hbk hbx;rw [hB];have hBl:B.length=20+b.length:=by rw [← hB];simp [zfI,le4];omega
 have b0:∀h:0<(bs B).size,((bs B)[0]'h).toNat=72:=by subst hB;intro h;rfl
 have b1:∀h:1<(bs B).size,((bs B)[1]'h).toNat=1:=by subst hB;intro h;rfl
 have b2:∀h:2<(bs B).size,((bs B)[2]'h).toNat=k:=by subst hB;intro h;exact hbk
 have b3:∀h:3<(bs B).size,((bs B)[3]'h).toNat=s*16+d:=by subst hB;intro h;exact hbx
 have hsz:=zJ B;obtain⟨n,hn⟩:∃n,B.length=n:=⟨_,rfl⟩;rw [hn] at hsz hBl;have hex:=jk B 20;have hex4:=jk B 4;rw [hsz] at hex hex4;have hd20:B.drop 20=b:=by subst hB;rfl
 rw [hd20] at hex;obtain⟨C,hC⟩:∃C,B.drop 4=C:=⟨_,rfl⟩;rw [hC] at hex4
 have hw:∀q,q<4->yn ((C.drop (4*q)).take 4)=if q<3 then 0 else b.length:=by
  intro q hq;subst hC;subst hB
  obtain rfl|rfl|rfl|rfl:q=0∨q=1∨q=2∨q=3:=by omega
  ·rfl
  ·rfl
  ·rfl
  ·show yn ((le4 b.length++b).take 4)=b.length
   rw [List.take_append_of_le_length (by simp [le4]),List.take_of_length_le (by simp [le4]),yW];omega
 have hCl:C.length=16+b.length:=by rw [← hC,U3];omega
 have hsh:((s*16+d:Nat):Int) / 16=(s:Int):=by omega
 have hand:=zhx s hs d hd;have hri:=λW=>Qs k s d b ⟨by omega,by omega⟩ ⟨by omega,by omega⟩ ⟨by omega,by omega⟩ W
 simp only [show decide (b.length<=4096)=true by simpa using hb] at hri;have hk2:IntKind.i64.wrap (k:Int)=(k:Int):=by rw [N8];omega
 have hs2:IntKind.i64.wrap (s:Int)=(s:Int):=by rw [N8];omega
 have hd2:IntKind.i64.wrap (d:Int)=(d:Int):=by rw [N8];omega
 generalize s*16+d=x at*
 have t1:decide ((n:Int)<2)=false:=by simp;omega
 have t2:decide ((n:Int)<20)=false:=by simp;omega
 have y0:(20:Int)<=(n:Int):=by omega
 have y1:(4:Int)<=(n:Int):=by omega
 have hn6:(n:Int)<=1073741824:=by omega
 have h3:¬((n:Int)<=3):=by omega
 replace hB:=hid hB;replace hbk:=hid hbk;replace hbx:=hid hbx;replace hBl:=hid hBl;replace hn:=hid hn;replace hd20:=hid hd20;replace hC:=hid hC;replace hCl:=hid hCl;replace hw:=hid hw;replace hri:=hid hri;clear hk hs hd;refine zl func148 rfl ?_;simp only [ntmps148,R8,Nat.reduceAdd,Nat.reduceSub];go_wp2;go_step3;go_wp2_with fail
 refine(Yy _).mono ?_;rintro e w1⟨rfl,hb1⟩;have hbw:Below w.heap.size w w1:=pbx;have k1:Blk w1 (w.heap.size+1) #[.int .i64 1,.int .i64 0,.int .i64 0,.int .i64 0,.int .u32 0,.int .u32 0,.int .u32 0,.int .u32 0,.string ⟨#[]⟩] 182:=(Blk.new (by simp)).call hb1;have k0:Blk w1 w.heap.size #[.int .i64 0,.int .i64 0,.int .i64 0,.int .i64 0,.int .u32 0,.int .u32 0,.int .u32 0,.int .u32 0,.string ⟨#[]⟩] 182:=((Blk.new rfl).alloc _).call hb1;obtain⟨V,hV⟩:∃V,V=((w1.alloc (.cells #[.int .u32 0] 35)).alloc (.cells #[.pointer (some ⟨w.heap.size+1,4,none⟩),.pointer (some ⟨w.heap.size+1,5,none⟩),.pointer (some ⟨w.heap.size+1,6,none⟩),.pointer (some ⟨w1.heap.size,0,none⟩)] 306)).alloc (.cells #[.slice (some ⟨w1.heap.size+1,0,none⟩) 4 4] 307):=⟨_,rfl⟩;have kV:=((k1.alloc (.cells #[.int .u32 0] 35)).alloc (.cells #[.pointer (some ⟨w.heap.size+1,4,none⟩),.pointer (some ⟨w.heap.size+1,5,none⟩),.pointer (some ⟨w.heap.size+1,6,none⟩),.pointer (some ⟨w1.heap.size,0,none⟩)] 306)).alloc (.cells #[.slice (some ⟨w1.heap.size+1,0,none⟩) 4 4] 307);have cV:=kV.cell;have fV:=kV.frozen;have lV:=kV.lt;have c1:=k1.cell;go_wp2_with fail
 refine zd [O 0,O 1,O 2,O 3,O 4,O 5,O 6,O 7,O 8,E 9,O 10,E 11] none (λw'=>True) (by kernel_rfl) (by kernel_rfl) trivial ?_
 (repeat (refine za (v:=?_) rfl rfl (λw' h=>?_) (λK k=>?_);rotate_left;obtain⟨f1,f2,f3,f4,f5,_⟩:=h;(try have e1:=f1.cell);(try have e2:=f2.cell);(try have e3:=f3.cell);(try have e4:=f4.cell);(try have e5:=f5.cell);go_simp;(try with_reducible rfl);go_simp;refine k _ ?_;clear k K))
 refine zc rfl (λK hK=>?_);go_wp2;refine hK.out _ _ (λ_=>trivial) ?_;clear hK K
 (repeat (refine za (v:=?_) rfl rfl (λw' h=>?_) (λK k=>?_);rotate_left;obtain⟨f1,f2,f3,f4,f5,_⟩:=h;(try have e1:=f1.cell);(try have e2:=f2.cell);(try have e3:=f3.cell);(try have e4:=f4.cell);(try have e5:=f5.cell);go_simp;(try with_reducible rfl);go_simp;refine k _ ?_;clear k K))
 refine zc rfl (λK hK=>?_);go_wp2;refine hK.out _ _ (λ_=>trivial) ?_;clear hK K cV fV lV c1;refine ze ?_;rw [← hV];rw [← hV] at kV;have hbV:Below w1.heap.size w1 V:=by rw [hV];exact pbx
 have hzV:V.heap.size=w1.heap.size+3:=by rw [hV];simp
 have kz:Blk V w1.heap.size #[.int .u32 0] 35:=by rw [hV];exact((Blk.new rfl).alloc _).alloc _
 have kp:Blk V (w1.heap.size+1) #[.pointer (some ⟨w.heap.size+1,4,none⟩),.pointer (some ⟨w.heap.size+1,5,none⟩),.pointer (some ⟨w.heap.size+1,6,none⟩),.pointer (some ⟨w1.heap.size,0,none⟩)] 306:=by rw [hV];exact(Blk.new (by simp)).alloc _
 have kf:Blk V (w1.heap.size+1+1) #[.slice (some ⟨w1.heap.size+1,0,none⟩) 4 4] 307:=by rw [hV];exact Blk.new (by simp)
 clear hV;have hz1:=hbw.size;have hlt1:=k1.lt;have hlt0:=k0.lt;obtain⟨V3,hV3⟩:∃V3,V3=(((V.setCell ⟨w.heap.size+1,1,none⟩ (.int .i64 (k:Int))).setCell ⟨w.heap.size+1,2,none⟩ (.int .i64 (s:Int))).setCell ⟨w.heap.size+1,3,none⟩ (.int .i64 (d:Int))).drew:=⟨_,rfl⟩;have hM3:Mod (λq=>q=w.heap.size+1) V V3:=by rw [hV3];exact((((Mod.refl (λq=>q=w.heap.size+1) V).thenSet (p:=⟨w.heap.size+1,1,none⟩) rfl _).thenSet (p:=⟨w.heap.size+1,2,none⟩) rfl _).thenSet (p:=⟨w.heap.size+1,3,none⟩) rfl _).thenDrew
 have k3:Blk V3 (w.heap.size+1) #[.int .i64 1,.int .i64 k,.int .i64 s,.int .i64 d,.int .u32 0,.int .u32 0,.int .u32 0,.int .u32 0,.string ⟨#[]⟩] 182:=by rw [hV3];exact(((kV.set (o:=1) _).set (o:=2) _).set (o:=3) _).drew
 have hz3':V3.heap.size=V.heap.size:=by rw [hV3];simp
 rw [← hV3];clear hV3;have c3:=k3.cell;have f3:=k3.frozen;have l3:=k3.lt;go_wp2;go_step3;go_wp2_with fail
 refine(zdh _ _).mono ?_;rintro e w4⟨rfl,rfl⟩;go_wp2_with fail
 obtain⟨W0,hW0⟩:∃W0,W0=(V3.setCell ⟨w.heap.size+1,8,none⟩ (.string (bs b))).alloc (.cells #[.string (bs C)] 9):=⟨_,rfl⟩
 have hz3:V3.heap.size=w1.heap.size+3:=by
  have h1:=hM3.size;have h2:=hz3';omega
 have hne:∀q,q≠w.heap.size+1->q<V.heap.size->W0.heap[q]?=V.heap[q]?:=λq hq hl=>by
  rw [hW0];rw [U4 _ _ _ (by simp;have:=hM3.size;omega),N4 _ _ _ _ hq];exact hM3.block q hl hq
 have hz0:W0.heap.size=w1.heap.size+4:=by rw [hW0];simp [hz3]
 have kF:Blk W0 (w.heap.size+1) #[.int .i64 1,.int .i64 k,.int .i64 s,.int .i64 d,.int .u32 0,.int .u32 0,.int .u32 0,.int .u32 0,.string (bs b)] 182:=by rw [hW0];exact(k3.set (o:=8) _).alloc _
 have kZ:=kz.kept (w':=W0) (hne _ (by omega) (by omega));have kP:=kp.kept (w':=W0) (hne _ (by omega) (by omega));have kFd:=kf.kept (w':=W0) (hne _ (by omega) (by omega));have k00:=(k0.below hbV k0.lt).kept (w':=W0) (hne _ (by omega) (by omega));have kS:Blk W0 (w1.heap.size+3) #[.string (bs C)] 9:=by rw [hW0];exact Blk.new (by simp [hz3])
 have hb0:Below w.heap.size w W0:=(hbw.trans (hbV.mono hz1)).trans ⟨by rw [hW0];exact hM3.os,by rw [hW0];exact hM3.tape,by rw [hW0];exact hM3.output,by omega,λq hq=>hne q (by omega) (by omega)⟩;rw [← hW0];have hsz3:(V3.setCell ⟨w.heap.size+1,8,none⟩ (.string (bs b))).heap.size=w1.heap.size+3:=by simp [hz3]
 clear hW0 hne kz kp kf c3 f3 k3 hM3 kV k1 k0
 refine yT (gf:=244) (lb:=#[.pointer (some ⟨w1.heap.size+3,0,none⟩)]) rfl (enters_of func244 (by kernel_rfl) rfl)
  (zhw (w1.heap.size+3) C (by have:=hCl.out;omega)) (λ_=>rfl)
  (λq X W=>zkU k s d b (w.heap.size+1) w1.heap.size W0 q X W) (λc X W=>c=.exit 0/\zkU k s d b (w.heap.size+1) w1.heap.size W0 4 X W)
  (λq X X' W W' h hm hx=>h.step hm hx (by omega) (by omega))
  (λc u X X' W W' h hm hx=>⟨h.1,h.2.step hm hx (by omega) (by omega)⟩)
  (λq X W h=>kS.mod h.1.2 (by omega))
  ⟨Fr.refl _ _,by omega,kF,kZ⟩
  (λx=>[(10,.int .i64 (x.1:Nat)),(11,.int .u32 (x.2:Nat))]) ?assign ?body ?done ?stop
 case assign=>
  intro l' x W K hK;rw [vB] at hK⊢
  gi_wp2
  exact hK
 case body=>
  rintro l' q⟨q',y⟩ X W⟨hfr,hq4,kb,kz⟩⟨hql,rfl,hy⟩ hXl _;rw [vB];have eP:=(kP.mod hfr.2 (by omega)).cell;have eF:=(kFd.mod hfr.2 (by omega)).cell;have eb:=kb.cell;have fb:=kb.frozen;have lb:=kb.lt;have ez:=kz.cell;have fz:=kz.frozen;have lz:=kz.lt;simp only at hy hq4 hql
  rcases(by omega:q'=0∨q'=1∨q'=2∨q'=3∨q'=4)with rfl|rfl|rfl|rfl|rfl
  ·rw [hw.out 0 (by omega),if_pos (by omega)] at hy
   subst hy
   gi_wp2
   have hm2:Mod (λj=>j=w.heap.size+1) W (W.setCell ⟨w.heap.size+1,4,none⟩ (.int .u32 ((0:Nat):Int))):=Mod.setCell W _ _ rfl;exact⟨⟨hfr.mod hm2 (λj _ h=>.inl h),by omega,kb.set (o:=4) _,kz.other (p:=⟨w.heap.size+1,4,none⟩) (by show w1.heap.size≠w.heap.size+1;omega) _⟩,jB.of_mod hm2 (λj _ hX he=>by have:=hfr.1 j hX;omega)⟩
  ·rw [hw.out 1 (by omega),if_pos (by omega)] at hy
   subst hy
   gi_wp2
   have hm2:Mod (λj=>j=w.heap.size+1) W (W.setCell ⟨w.heap.size+1,5,none⟩ (.int .u32 ((0:Nat):Int))):=Mod.setCell W _ _ rfl;exact⟨⟨hfr.mod hm2 (λj _ h=>.inl h),by omega,kb.set (o:=5) _,kz.other (p:=⟨w.heap.size+1,5,none⟩) (by show w1.heap.size≠w.heap.size+1;omega) _⟩,jB.of_mod hm2 (λj _ hX he=>by have:=hfr.1 j hX;omega)⟩
  ·rw [hw.out 2 (by omega),if_pos (by omega)] at hy
   subst hy
   gi_wp2
   have hm2:Mod (λj=>j=w.heap.size+1) W (W.setCell ⟨w.heap.size+1,6,none⟩ (.int .u32 ((0:Nat):Int))):=Mod.setCell W _ _ rfl;exact⟨⟨hfr.mod hm2 (λj _ h=>.inl h),by omega,kb.set (o:=6) _,kz.other (p:=⟨w.heap.size+1,6,none⟩) (by show w1.heap.size≠w.heap.size+1;omega) _⟩,jB.of_mod hm2 (λj _ hX he=>by have:=hfr.1 j hX;omega)⟩
  ·rw [hw.out 3 (by omega),if_neg (by omega)] at hy
   subst hy
   gi_wp2
   have hm2:Mod (λj=>j=w1.heap.size) W (W.setCell ⟨w1.heap.size,0,none⟩ (.int .u32 (b.length:Int))):=Mod.setCell W _ _ rfl;exact⟨⟨hfr.mod hm2 (λj _ h=>.inr h),by omega,kb.other (p:=⟨w1.heap.size,0,none⟩) (by show w.heap.size+1≠w1.heap.size;omega) _,kz.set (o:=0) _⟩,jB.of_mod hm2 (λj _ hX he=>by have:=hfr.1 j hX;omega)⟩
  ·gi_wp2
   exact⟨⟨rfl,hfr,hq4,kb,kz⟩,jB.refl _ _⟩
 case done=>
  rintro D q X W hD hXD hfin⟨hfr,hq4,kb,kz⟩ hdef;obtain rfl:q=4:=by have:=hCl.out;omega
  clear hfin;have kz':Blk W w1.heap.size #[.int .u32 (b.length:Nat)] 35:=kz;have ez:=kz'.cell;have eb:=kb.cell;have lb:=kb.lt;have e0:=(k00.mod hfr.2 (by omega)).cell;have f0:=(k00.mod hfr.2 (by omega)).frozen;have l0:=(k00.mod hfr.2 (by omega)).lt;have hbW:Below w.heap.size w W:=hb0.trans (hfr.below (by omega) (λj h=>by omega));have t7:((b.length:Int) !=(b.length:Int))=false:=by simp
  have hbsz:=zJ b;have hW':=hb0.size;have kr:=k00.mod hfr.2 (show¬(w.heap.size=w.heap.size+1∨w.heap.size=w1.heap.size)by omega);go_wp2_with fail
  unfold Jj at hri;refine(hri.out _).mono ?_;rintro e w5⟨rfl,hb5⟩;have eb5:=(kb.call hb5).cell;have e05:=(kr.call hb5).cell;have f05:=(kr.call hb5).frozen;have l05:=(kr.call hb5).lt;have rr:=(((((((((kr.call hb5).set (o:=0) (.int .i64 1)).set (o:=1) (.int .i64 k)).set (o:=2) (.int .i64 s)).set (o:=3) (.int .i64 d)).set (o:=4) (.int .u32 0)).set (o:=5) (.int .u32 0)).set (o:=6) (.int .u32 0)).set (o:=7) (.int .u32 0)).set (o:=8) (.string (bs b));clear ez eb lb e0 f0 l0;go_wp2;rw [Exit.noGoto_ret];go_wp2;obtain⟨Wf,hWf⟩:∃Wf,Wf=(((((((((w5.setCell ⟨w.heap.size,0,none⟩ (.int .i64 1)).setCell ⟨w.heap.size,1,none⟩ (.int .i64 k)).setCell ⟨w.heap.size,2,none⟩ (.int .i64 s)).setCell ⟨w.heap.size,3,none⟩ (.int .i64 d)).setCell ⟨w.heap.size,4,none⟩ (.int .u32 0)).setCell ⟨w.heap.size,5,none⟩ (.int .u32 0)).setCell ⟨w.heap.size,6,none⟩ (.int .u32 0)).setCell ⟨w.heap.size,7,none⟩ (.int .u32 0)).setCell ⟨w.heap.size,8,none⟩ (.string (bs b))):=⟨_,rfl⟩;rw [← hWf] at rr;rw [← hWf];have hDl:=(N5.1 hdef).1;have hneD:D≠w.heap.size:=by omega
  have hDf:Wf.heap[D]?=some (.deferred (some [])):=by
   rw [hWf]
   repeat refine Zp ?_ hneD _
   exact(hb5.block D hDl).trans hdef
  have hbf:Below w.heap.size w Wf:=by
   rw [hWf]
   repeat refine zn ?_ (N0 _) _
   exact zg hbW hb5
  have rc:=(rr.putObj (r:=D) (Ne.symm hneD) (.deferred none)).cell;unfold Jj;exact z8 (D:=D) (v:=.tuple #[.agg #[.int .i64 1,.int .i64 k,.int .i64 s,.int .i64 d,.int .u32 0,.int .u32 0,.int .u32 0,.int .u32 0,.string (bs b)],.nilIface]) hDf (by simp [results,Tryz.results148,go_sem,rc]) ⟨rfl,zN hbf (by omega) _⟩
 case stop=>
  rintro D c X W hD hXD⟨rfl,hfr,hq4,kb,kz⟩ hdef;have kz':Blk W w1.heap.size #[.int .u32 (b.length:Nat)] 35:=kz;have ez:=kz'.cell;have eb:=kb.cell;have lb:=kb.lt;have e0:=(k00.mod hfr.2 (by omega)).cell;have f0:=(k00.mod hfr.2 (by omega)).frozen;have l0:=(k00.mod hfr.2 (by omega)).lt;have hbW:Below w.heap.size w W:=hb0.trans (hfr.below (by omega) (λj h=>by omega));have t7:((b.length:Int) !=(b.length:Int))=false:=by simp
  have hbsz:=zJ b;have hW':=hb0.size;have kr:=k00.mod hfr.2 (show¬(w.heap.size=w.heap.size+1∨w.heap.size=w1.heap.size)by omega);go_wp2_with fail
  unfold Jj at hri;refine(hri.out _).mono ?_;rintro e w5⟨rfl,hb5⟩;have eb5:=(kb.call hb5).cell;have e05:=(kr.call hb5).cell;have f05:=(kr.call hb5).frozen;have l05:=(kr.call hb5).lt;have rr:=(((((((((kr.call hb5).set (o:=0) (.int .i64 1)).set (o:=1) (.int .i64 k)).set (o:=2) (.int .i64 s)).set (o:=3) (.int .i64 d)).set (o:=4) (.int .u32 0)).set (o:=5) (.int .u32 0)).set (o:=6) (.int .u32 0)).set (o:=7) (.int .u32 0)).set (o:=8) (.string (bs b));clear ez eb lb e0 f0 l0;go_wp2;rw [Exit.noGoto_ret];go_wp2;obtain⟨Wf,hWf⟩:∃Wf,Wf=(((((((((w5.setCell ⟨w.heap.size,0,none⟩ (.int .i64 1)).setCell ⟨w.heap.size,1,none⟩ (.int .i64 k)).setCell ⟨w.heap.size,2,none⟩ (.int .i64 s)).setCell ⟨w.heap.size,3,none⟩ (.int .i64 d)).setCell ⟨w.heap.size,4,none⟩ (.int .u32 0)).setCell ⟨w.heap.size,5,none⟩ (.int .u32 0)).setCell ⟨w.heap.size,6,none⟩ (.int .u32 0)).setCell ⟨w.heap.size,7,none⟩ (.int .u32 0)).setCell ⟨w.heap.size,8,none⟩ (.string (bs b))):=⟨_,rfl⟩;rw [← hWf] at rr;rw [← hWf];have hDl:=(N5.1 hdef).1;have hneD:D≠w.heap.size:=by omega
  have hDf:Wf.heap[D]?=some (.deferred (some [])):=by
   rw [hWf]
   repeat refine Zp ?_ hneD _
   exact(hb5.block D hDl).trans hdef
  have hbf:Below w.heap.size w Wf:=by
   rw [hWf]
   repeat refine zn ?_ (N0 _) _
   exact zg hbW hb5
  have rc:=(rr.putObj (r:=D) (Ne.symm hneD) (.deferred none)).cell;unfold Jj;exact z8 (D:=D) (v:=.tuple #[.agg #[.int .i64 1,.int .i64 k,.int .i64 s,.int .i64 d,.int .u32 0,.int .u32 0,.int .u32 0,.int .u32 0,.string (bs b)],.nilIface]) hDf (by simp [results,Tryz.results148,go_sem,rc]) ⟨rfl,zN hbf (by omega) _⟩
theorem zhz(w:World):Calls prog 149 #[.nilIface] w λe w'=>e=.returned (.int .i64 0)/\w'=w:=by
 go_enter func149,ntmps149
 go_wp2;go_ret
 exact⟨rfl,rfl⟩
theorem zjb {k s d:Nat}{b:List UInt8}(hk:k<=31)(hs:s<16)(hd:d<16)(hb:b.length<=4096):xA (qr (qu k s d b)).1=some (zfI (yU k) (yU (s*16+d:Nat)) (le4 b.length) b):=by
 rw [zaj hk hs hd,if_pos hb,VH];simp [zfI,le4]
theorem zfJ(k s d:Nat)(hk:k<=31)(hs:s<16)(hd:d<16)(b:List UInt8)(hb:b.length<=4096)(w:World):
 Calls prog 100 #[.string (bs (qr (qu k s d b)).1)] w λe w'=>e=.returned (.tuple #[Jj k s d b,.int .i64 0])/\Below w.heap.size w w':=by
 have hop:=zjb (b:=b) hk hs hd hb;have hrd:=λW=>zhy k s d hk hs hd b hb W
 have hlen:(qr (qu k s d b)).1.length<=1073741824:=by
  rw [zaj hk hs hd,if_pos hb];unfold qB;simp [le4]
  omega
 have ho:=λW=>QV (qr (qu k s d b)).1 hlen W
 rw [hop] at ho
 generalize(qr (qu k s d b)).1=S at*
 generalize zfI (yU k) (yU (s*16+d:Nat)) (le4 b.length) b=B at*
 unfold zcB at ho;unfold Jj at hrd⊢;simp only at ho;have k0:Blk (w.alloc (.cells #[.int .i64 0,.int .i64 0,.int .i64 0,.int .i64 0,.int .u32 0,.int .u32 0,.int .u32 0,.int .u32 0,.string ⟨#[]⟩] 182)) w.heap.size #[.int .i64 0,.int .i64 0,.int .i64 0,.int .i64 0,.int .u32 0,.int .u32 0,.int .u32 0,.int .u32 0,.string ⟨#[]⟩] 182:=Blk.new rfl;replace hop:=hid hop;replace ho:=hid ho;replace hrd:=hid hrd;clear hk hs hd hlen hb
 go_enter func100,ntmps100
 go_wp2_with fail
 refine(ho.out _).mono ?_;rintro e w1⟨rfl,hb1⟩;have hb1w:Below w.heap.size w w1:=pbx;go_wp2_with fail
 refine(hrd.out _).mono ?_;rintro e w2⟨rfl,hb2⟩;have k2:=((k0.call hb1).call hb2).alloc (.cells #[.int .i64 1,.int .i64 k,.int .i64 s,.int .i64 d,.int .u32 0,.int .u32 0,.int .u32 0,.int .u32 0,.string (bs b)] 182);have kf:Blk (w2.alloc (.cells #[.int .i64 1,.int .i64 k,.int .i64 s,.int .i64 d,.int .u32 0,.int .u32 0,.int .u32 0,.int .u32 0,.string (bs b)] 182)) w2.heap.size #[.int .i64 1,.int .i64 k,.int .i64 s,.int .i64 d,.int .u32 0,.int .u32 0,.int .u32 0,.int .u32 0,.string (bs b)] 182:=Blk.new rfl;have hb2w:=zg hb1w hb2;go_wp2_with fail
 refine zd [O 0,O 1,E 2,E 3,O 4] none (λw'=>Blk w' w2.heap.size #[.int .i64 1,.int .i64 k,.int .i64 s,.int .i64 d,.int .u32 0,.int .u32 0,.int .u32 0,.int .u32 0,.string (bs b)] 182/\True) (by kernel_rfl) (by kernel_rfl) ⟨kf.drew,trivial⟩ ?_
 (repeat (refine za (v:=?_) rfl rfl (λw' h=>?_) (λK k=>?_);rotate_left;obtain⟨f1,_⟩:=h;have e1:=f1.cell;go_simp;(try with_reducible rfl);go_simp;refine k _ ?_;clear k K))
 refine zc rfl (λK hK=>?_);go_wp2_with fail
 refine(zhz _).mono ?_;rintro e w3⟨rfl,rfl⟩;go_wp2;refine hK.out _ _ (λ_=>⟨kf.drew,trivial⟩) ?_;clear hK K;have hne:w2.heap.size≠w.heap.size:=by have:=hb1.size;have:=hb2.size;simp at*;omega
 obtain⟨V,hV⟩:∃V,V=(w2.alloc (.cells #[.int .i64 1,.int .i64 k,.int .i64 s,.int .i64 d,.int .u32 0,.int .u32 0,.int .u32 0,.int .u32 0,.string (bs b)] 182)):=⟨_,rfl⟩;rw [← hV] at k2 kf;rw [← hV];have d0:V.cell? ⟨w.heap.size,0,none⟩=some (.int .i64 0):=k2.cell 0;have d1:V.cell? ⟨w.heap.size,1,none⟩=some (.int .i64 0):=k2.cell 1;have d2:V.cell? ⟨w.heap.size,2,none⟩=some (.int .i64 0):=k2.cell 2;have d3:V.cell? ⟨w.heap.size,3,none⟩=some (.int .i64 0):=k2.cell 3;have d4:V.cell? ⟨w.heap.size,4,none⟩=some (.int .u32 0):=k2.cell 4;have d5:V.cell? ⟨w.heap.size,5,none⟩=some (.int .u32 0):=k2.cell 5;have d6:V.cell? ⟨w.heap.size,6,none⟩=some (.int .u32 0):=k2.cell 6;have d7:V.cell? ⟨w.heap.size,7,none⟩=some (.int .u32 0):=k2.cell 7;have d8:V.cell? ⟨w.heap.size,8,none⟩=some (.string ⟨#[]⟩):=k2.cell 8;have hbV:Below w.heap.size w V:=by rw [hV];exact zi hb2w _
 clear hV;have f2:=k2.frozen;have l2:=k2.lt;have rr:=(Blk.drew (((((((((k2.set (o:=0) (.int .i64 1)).set (o:=1) (.int .i64 k)).set (o:=2) (.int .i64 s)).set (o:=3) (.int .i64 d)).set (o:=4) (.int .u32 0)).set (o:=5) (.int .u32 0)).set (o:=6) (.int .u32 0)).set (o:=7) (.int .u32 0)).set (o:=8) (.string (bs b)))).cell;refine zc rfl (λK hK=>?_);go_wp2;refine hK.out _ _ (λ_=>⟨Blk.drew (Blk.other ((Blk.other ((Blk.other ((Blk.other ((Blk.other ((Blk.other ((Blk.other ((Blk.other ((Blk.other (kf) (p:=⟨w.heap.size,0,none⟩) hne (.int .i64 1))) (p:=⟨w.heap.size,1,none⟩) hne (.int .i64 k))) (p:=⟨w.heap.size,2,none⟩) hne (.int .i64 s))) (p:=⟨w.heap.size,3,none⟩) hne (.int .i64 d))) (p:=⟨w.heap.size,4,none⟩) hne (.int .u32 0))) (p:=⟨w.heap.size,5,none⟩) hne (.int .u32 0))) (p:=⟨w.heap.size,6,none⟩) hne (.int .u32 0))) (p:=⟨w.heap.size,7,none⟩) hne (.int .u32 0))) (p:=⟨w.heap.size,8,none⟩) hne (.string (bs b))),trivial⟩) ?_;clear hK K
 (repeat (refine za (v:=?_) rfl rfl (λw' h=>?_) (λK k=>?_);rotate_left;obtain⟨f1,_⟩:=h;have e1:=f1.cell;go_simp;(try with_reducible rfl);go_simp;refine k _ ?_;clear k K))
 refine ze ?_;go_wp2;exact bodyPost_ret (v:=.tuple #[.agg #[.int .i64 1,.int .i64 k,.int .i64 s,.int .i64 d,.int .u32 0,.int .u32 0,.int .u32 0,.int .u32 0,.string (bs b)],.int .i64 0]) (by simp [results,Tryz.results100,go_sem,rr]) rfl ⟨rfl,zo (zn (zn (zn (zn (zn (zn (zn (zn (zn hbV (N0 _) _) (N0 _) _) (N0 _) _) (N0 _) _) (N0 _) _) (N0 _) _) (N0 _) _) (N0 _) _) (N0 _) _)⟩
def zli:Value:=.agg #[.int .i64 0,.int .i64 0,.int .i64 0,.int .i64 0,.int .u32 0,.int .u32 0,.int .u32 0,.int .u32 0,.string ⟨#[]⟩]
theorem zfK(S:List UInt8)(hl:S.length<=1073741824)(hop:xA S=none)(w:World):
 Calls prog 100 #[.string (bs S)] w λe w'=>e=.returned (.tuple #[zli,.int .i64 21])/\Below w.heap.size w w':=by
 have ho:=λW=>QV S hl W
 rw [hop] at ho;unfold zcB at ho;simp only at ho;replace ho:=hid ho;replace hop:=hid hop;unfold zli;have k0:Blk (w.alloc (.cells #[.int .i64 0,.int .i64 0,.int .i64 0,.int .i64 0,.int .u32 0,.int .u32 0,.int .u32 0,.int .u32 0,.string ⟨#[]⟩] 182)) w.heap.size #[.int .i64 0,.int .i64 0,.int .i64 0,.int .i64 0,.int .u32 0,.int .u32 0,.int .u32 0,.int .u32 0,.string ⟨#[]⟩] 182:=Blk.new rfl
 go_enter func100,ntmps100
 go_wp2_with fail
 refine(ho.out _).mono ?_;rintro e w1⟨rfl,hb1⟩;have hb1w:Below w.heap.size w w1:=pbx;have k1:=k0.call hb1;have f1:=k1.frozen;have l1:=k1.lt;have d0:w1.cell? ⟨w.heap.size,0,none⟩=some (.int .i64 0):=k1.cell 0;have d1:w1.cell? ⟨w.heap.size,1,none⟩=some (.int .i64 0):=k1.cell 1;have d2:w1.cell? ⟨w.heap.size,2,none⟩=some (.int .i64 0):=k1.cell 2;have d3:w1.cell? ⟨w.heap.size,3,none⟩=some (.int .i64 0):=k1.cell 3;have d4:w1.cell? ⟨w.heap.size,4,none⟩=some (.int .u32 0):=k1.cell 4;have d5:w1.cell? ⟨w.heap.size,5,none⟩=some (.int .u32 0):=k1.cell 5;have d6:w1.cell? ⟨w.heap.size,6,none⟩=some (.int .u32 0):=k1.cell 6;have d7:w1.cell? ⟨w.heap.size,7,none⟩=some (.int .u32 0):=k1.cell 7;have d8:w1.cell? ⟨w.heap.size,8,none⟩=some (.string ⟨#[]⟩):=k1.cell 8;go_wp2;have rr:=(((((((((k1.set (o:=0) (.int .i64 0)).set (o:=1) (.int .i64 0)).set (o:=2) (.int .i64 0)).set (o:=3) (.int .i64 0)).set (o:=4) (.int .u32 0)).set (o:=5) (.int .u32 0)).set (o:=6) (.int .u32 0)).set (o:=7) (.int .u32 0)).set (o:=8) (.string ⟨#[]⟩)).cell;exact bodyPost_ret (v:=.tuple #[.agg #[.int .i64 0,.int .i64 0,.int .i64 0,.int .i64 0,.int .u32 0,.int .u32 0,.int .u32 0,.int .u32 0,.string ⟨#[]⟩],.int .i64 21]) (by simp [results,Tryz.results100,go_sem,rr]) rfl ⟨rfl,(zn (zn (zn (zn (zn (zn (zn (zn (zn hb1w (N0 _) _) (N0 _) _) (N0 _) _) (N0 _) _) (N0 _) _) (N0 _) _) (N0 _) _) (N0 _) _) (N0 _) _)⟩
theorem zhA(n:Nat):le4 (n % 4294967296)=le4 n:=by
 unfold le4
 have h:∀k,UInt8.ofNat (n % 4294967296 / 256 ^ k)=UInt8.ofNat (n / 256 ^ k)∨4<=k:=λk=>by
  rcases(by omega:k=0∨k=1∨k=2∨k=3∨4<=k)with rfl|rfl|rfl|rfl|h
  ·left;apply UInt8.toNat_inj.1;simp
  ·left;apply UInt8.toNat_inj.1;simp;omega
  ·left;apply UInt8.toNat_inj.1;simp;omega
  ·left;apply UInt8.toNat_inj.1;simp;omega
  ·right;exact h
 have h0:=(h 0).resolve_right (by omega);have h1:=(h 1).resolve_right (by omega);have h2:=(h 2).resolve_right (by omega);have h3:=(h 3).resolve_right (by omega);simp only [Nat.pow_zero,Nat.div_one,Nat.pow_one] at h0 h1;rw [h0,h1,show(65536:Nat)=256 ^ 2 by decide,h2,show(16777216:Nat)=256 ^ 3 by decide,h3]
theorem zef(b:Nat)(w:World):Calls prog 192 #[.int .u64 (b:Nat)] w λe w'=>e=.returned (.string (bs (le8 b)))/\Below w.heap.size w w':=by
 have h1:IntKind.u32.wrap (b:Int)=((b % 4294967296:Nat):Int):=by rw [IntKind.wrap_u32];omega
 have h2:IntKind.u32.wrap ((b:Int) / 4294967296)=((b / 4294967296 % 4294967296:Nat):Int):=by rw [IntKind.wrap_u32];omega
 have had:=ZR (le4 b) (le4 (b / 4294967296)) (by rw [zY,zY];omega);have p1:=λW=>yI (b % 4294967296) W
 have p2:=λW=>yI (b / 4294967296 % 4294967296) W
 rw [zhA] at p1 p2;unfold le8
 generalize le4 b=x at*
 generalize le4 (b / 4294967296)=y at*
 generalize b % 4294967296=b1 at*
 generalize b / 4294967296 % 4294967296=b2 at*
 replace p1:=hid p1;replace p2:=hid p2
 go_enter func192,ntmps192
 go_wp2_with fail
 refine(p1.out _).mono ?_;rintro e w1⟨rfl,hb1⟩;go_wp2_with fail
 refine(p2.out _).mono ?_;rintro e w2⟨rfl,hb2⟩;go_wp2;go_ret
 exact⟨rfl,zg hb1 hb2⟩
theorem zfL(w:World):Calls prog 138 #[.slice none 0 0,.string ⟨#[]⟩] w λe w'=>e=.returned (.string (bs []))/\w'=w:=by
 go_enter func138,ntmps138
 go_wp2;go_ret
 exact⟨rfl,rfl⟩
theorem zhB(v:Value)(ts:List (List UInt8))(w:World)(hv:Src w v 1 ts.length (yD ts))(hn:ts.length<=1000)(hl:ts.flatten.length<=1073741824):
 Calls prog 138 #[v,.string ⟨#[]⟩] w λe w'=>e=.returned (.string (bs ts.flatten))/\Below w.heap.size w w':=by
 by_cases h0:0<ts.length
 ·exact zbs v ts w hv h0 hn hl
 ·have h1:ts=[]:=N9 (by omega)
  subst h1
  rcases hv.2 with⟨rfl, -⟩|⟨b,off,cap,rfl, -⟩
  ·refine(zfL w).mono ?_
   rintro e w'⟨rfl,rfl⟩;exact⟨rfl,N2 _ _⟩
  ·go_enter func138,ntmps138
   go_wp2;go_ret
   exact⟨rfl,N2 _ _⟩
def xE(inst:Int)(ballot:Nat):Value:=.agg #[.int .i64 inst,.int .u64 (ballot:Nat)]
def xF(inst:Int)(ballot:Nat)(more:List UInt8):List UInt8:=le4 (inst % 4294967296).toNat++le8 ballot++more
theorem Zz(kind src dst inst:Int)(ballot:Nat)(v:Value)(ts:List (List UInt8))(w:World)(hv:Src w v 1 ts.length (yD ts))(hn:ts.length<=1000)(hl:ts.flatten.length<=1000000):
 Calls prog 145 #[.int .i64 kind,.int .i64 src,.int .i64 dst,xE inst ballot,v] w λe w'=>e=.returned (Jj kind src dst (xF inst ballot ts.flatten))/\Below w.heap.size w w':=by
 have hj:=λW hW=>zhB v ts W hW hn (by omega)
 have hp:=λW=>yI (inst % 4294967296).toNat W
 have hw1:IntKind.u32.wrap inst=(((inst % 4294967296).toNat:Nat):Int):=by rw [IntKind.wrap_u32];omega
 have hq:=λW=>zef ballot W
 have a1:=ZR (le4 (inst % 4294967296).toNat) (le8 ballot) (by simp [le8,zY]);have a2:=ZR (le4 (inst % 4294967296).toNat++le8 ballot) ts.flatten (by rw [show(le4 (inst % 4294967296).toNat++le8 ballot).length=12 from rfl];omega);unfold xE xF Jj
 generalize(inst % 4294967296).toNat=i4 at*
 generalize le4 i4=x at*
 generalize le8 ballot=y at*
 generalize ts.flatten=z at*
 obtain⟨xyz,hxyz⟩:∃q,x++y++z=q:=⟨_,rfl⟩;rw [hxyz] at a2⊢;replace hxyz:=hid hxyz;replace hj:=hid hj;replace hp:=hid hp;replace hq:=hid hq;replace a1:=hid a1;replace a2:=hid a2;have km:Blk ((w.alloc (.cells #[.int .i64 inst,.int .u64 (ballot:Nat)] 171)).alloc (.cells #[.int .i64 0,.int .i64 0,.int .i64 0,.int .i64 0,.int .u32 0,.int .u32 0,.int .u32 0,.int .u32 0,.string ⟨#[]⟩] 182)) w.heap.size #[.int .i64 inst,.int .u64 (ballot:Nat)] 171:=(Blk.new rfl).alloc _;have kr:Blk ((w.alloc (.cells #[.int .i64 inst,.int .u64 (ballot:Nat)] 171)).alloc (.cells #[.int .i64 0,.int .i64 0,.int .i64 0,.int .i64 0,.int .u32 0,.int .u32 0,.int .u32 0,.int .u32 0,.string ⟨#[]⟩] 182)) (w.heap.size+1) #[.int .i64 0,.int .i64 0,.int .i64 0,.int .i64 0,.int .u32 0,.int .u32 0,.int .u32 0,.int .u32 0,.string ⟨#[]⟩] 182:=Blk.new (by simp);have hb0:Below w.heap.size w ((w.alloc (.cells #[.int .i64 inst,.int .u64 (ballot:Nat)] 171)).alloc (.cells #[.int .i64 0,.int .i64 0,.int .i64 0,.int .i64 0,.int .u32 0,.int .u32 0,.int .u32 0,.int .u32 0,.string ⟨#[]⟩] 182)):=pbx
 obtain⟨va,vn,vc,rfl⟩:∃a n c,v=.slice a n c:=by
  rcases hv.2 with⟨rfl, -⟩|⟨b,off,cap,rfl, -⟩<;>exact⟨_,_,_,rfl⟩
 go_enter func145,ntmps145
 go_wp2_with fail
 refine zd [O 0,O 1,O 2,O 4,O 5,O 8,E 3,E 6,O 7,E 9,O 10,O 11] none (λw'=>Blk w' w.heap.size #[.int .i64 inst,.int .u64 (ballot:Nat)] 171/\True) (by kernel_rfl) (by kernel_rfl) ⟨km.drew,trivial⟩ ?_
 (repeat (refine za (v:=?_) rfl rfl (λw' h=>?_) (λK k=>?_);rotate_left;obtain⟨f1,_⟩:=h;have e1:=f1.cell;go_simp;(try with_reducible rfl);go_simp;refine k _ ?_;clear k K))
 refine zc rfl (λK hK=>?_);go_wp2_with fail
 refine(hp.out _).mono ?_;rintro e w1⟨rfl,hb1⟩;have k1:=km.drew.call hb1;go_wp2;refine hK.out _ _ (λ_=>⟨k1,trivial⟩) ?_;clear hK K;refine zc rfl (λK hK=>?_);go_wp2_with fail
 refine(hq.out _).mono ?_;rintro e w2⟨rfl,hb2⟩;have k2:=k1.call hb2;have a1':=a1.out w2;go_wp2;refine hK.out _ _ (λ_=>⟨k2,trivial⟩) ?_;clear hK K;have a1'':=a1.out
 (repeat (refine za (v:=?_) rfl rfl (λw' h=>?_) (λK k=>?_);rotate_left;obtain⟨f1,_⟩:=h;have e1:=f1.cell;go_simp;(try with_reducible rfl);go_simp;refine k _ ?_;clear k K))
 refine zc rfl (λK hK=>?_);go_wp2_with fail
 refine(hj.out _ (hv.below (zg (zg (zo hb0) hb1) hb2))).mono ?_;rintro e w3⟨rfl,hb3⟩;have hb3w:=zg (zg (zg (zo hb0) hb1) hb2) hb3;have k3:=(kr.drew.call hb1).call (zg hb2 hb3);have a2':=a2.out;go_wp2;refine hK.out _ _ (λ_=>⟨k2.call hb3,trivial⟩) ?_;clear hK K a1'' a1'
 (repeat (refine za (v:=?_) rfl rfl (λw' h=>?_) (λK k=>?_);rotate_left;obtain⟨f1,_⟩:=h;have e1:=f1.cell;go_simp;(try with_reducible rfl);go_simp;refine k _ ?_;clear k K))
 refine ze ?_;have d0:w3.cell? ⟨w.heap.size+1,0,none⟩=some (.int .i64 0):=k3.cell 0;have d1:w3.cell? ⟨w.heap.size+1,1,none⟩=some (.int .i64 0):=k3.cell 1;have d2:w3.cell? ⟨w.heap.size+1,2,none⟩=some (.int .i64 0):=k3.cell 2;have d3:w3.cell? ⟨w.heap.size+1,3,none⟩=some (.int .i64 0):=k3.cell 3;have d4:w3.cell? ⟨w.heap.size+1,4,none⟩=some (.int .u32 0):=k3.cell 4;have d5:w3.cell? ⟨w.heap.size+1,5,none⟩=some (.int .u32 0):=k3.cell 5;have d6:w3.cell? ⟨w.heap.size+1,6,none⟩=some (.int .u32 0):=k3.cell 6;have d7:w3.cell? ⟨w.heap.size+1,7,none⟩=some (.int .u32 0):=k3.cell 7;have d8:w3.cell? ⟨w.heap.size+1,8,none⟩=some (.string ⟨#[]⟩):=k3.cell 8;have f3:=k3.frozen;have l3:=k3.lt;have rr:=(((((((((k3.set (o:=0) (.int .i64 1)).set (o:=1) (.int .i64 kind)).set (o:=2) (.int .i64 src)).set (o:=3) (.int .i64 dst)).set (o:=4) (.int .u32 0)).set (o:=5) (.int .u32 0)).set (o:=6) (.int .u32 0)).set (o:=7) (.int .u32 0)).set (o:=8) (.string (bs xyz))).cell;go_wp2;exact bodyPost_ret (v:=.agg #[.int .i64 1,.int .i64 kind,.int .i64 src,.int .i64 dst,.int .u32 0,.int .u32 0,.int .u32 0,.int .u32 0,.string (bs xyz)]) (by simp [results,Tryz.results145,go_sem,rr]) rfl ⟨rfl,(zn (zn (zn (zn (zn (zn (zn (zn (zn hb3w (by simp) _) (by simp) _) (by simp) _) (by simp) _) (by simp) _) (by simp) _) (by simp) _) (by simp) _) (by simp) _)⟩
