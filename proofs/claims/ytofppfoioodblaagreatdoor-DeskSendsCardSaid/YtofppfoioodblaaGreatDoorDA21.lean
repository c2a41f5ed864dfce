/- PARTS OF THE PROOF. -/
import Derived.Test.YtofppfoioodblaaGreatDoorDA20
set_option maxRecDepth 8000
set_option maxHeartbeats 4000000
open Go.Proofs.Tryz
namespace Go.Proofs.YtofppfoioodblaaGreatDoor
open Go Go.RowKit Go.Shelf Go.Extern.Stop Go.Stop Go.Extern
attribute [local go_sem] Oper.semAt_some zB zo
theorem ql {B:Nat}{n:zq}{t:List Nat}(ht:t≠ []){ow:Own}{W:World}(h:jH B n t ow W){D:Nat}(hD:ow D=[])(a b c:Value):jH B n t ow (((W.setCell ⟨D,0,none⟩ a).setCell ⟨D,1,none⟩ b).setCell ⟨D,2,none⟩ c):=
 jH.loc B n t _ _ _ _ h (by simp) (λk hk hs=>by
  have hne:k≠D:=λe=>by subst e;rw [hD] at hs;exact zj ht hs
  exact⟨rfl,(N4 _ _ _ _ hne).trans ((N4 _ _ _ _ hne).trans (N4 _ _ _ _ hne))⟩)
theorem zcT {px sb lb pb:Nat}{av:Value}(B:Nat)(n:zq)(t:List Nat)(ht:t≠ [])(ow:Own)(i:Int)(b:Nat)(hb:b<18446744073709551616)(w:World)(hN:zw B px sb lb pb av n t ow w)(hcap:vx n.store):
 Calls prog 202 #[.pointer (some ⟨B,0,none⟩),.int .i64 i,.int .u64 b] w (Zt B (zy n i b).1 t ow w (zbj (zy n i b).2)):=by
 have hB:=hN.blk;have hr:=λW hW=>xu (B:=B) (px:=px) (sb:=sb) (lb:=lb) (pb:=pb) (av:=av) (n:=n) W hW
 have ab:=λW hW=>zbk px n.pax (t++ [0]) (by simp) (ow.cut w) i b hb W hW
 have ac:zy n i b=if n.down then(n,(0,0,[]),170)
  else if(zA n.pax i b).2.2.2≠0 then(n,(0,0,[]),(zA n.pax i b).2.2.2)
  else if(yk {n with pax:=(zA n.pax i b).1} true (zA n.pax i b).2.2.1).2≠0 then((yk {n with pax:=(zA n.pax i b).1} true (zA n.pax i b).2.2.1).1,(0,0,[]),(yk {n with pax:=(zA n.pax i b).1} true (zA n.pax i b).2.2.1).2)
  else((yk {n with pax:=(zA n.pax i b).1} true (zA n.pax i b).2.2.1).1,(zA n.pax i b).2.1,0):=rfl
 have aw:=zcS n.pax i b;have ag:= @zcR n.pax i b;unfold zD at hB;have e0:=hB.cell;have l0:=hB.lt;obtain⟨⟨p',⟨v1,v2,v3⟩,rc,er⟩,a2⟩:∃q,zA n.pax i b=q:=⟨_,rfl⟩;rw [a2] at ab ac aw ag;unfold ziD at ab;unfold zbj yY at*;simp only at ab ac aw ag;have am:=(zw.loc B px sb lb pb av n t).cut hN ((N2 w.heap.size w).alloc (N0 _) (.cells #[.int .u64 0,.int .u64 0,.string ⟨#[]⟩] 317));replace a2:=hid a2;replace ab:=hid ab;replace ag:=hid ag;have ah:=hr _ am.blk;unfold Yp at ah;clear hr
 by_cases hd:n.down=true
 ·rw [if_pos hd] at ac
  rw [hd] at ah;rw [ac];replace ac:=hid ac;replace ah:=hid ah;replace hd:=hid hd
  go_enter func202,ntmps202
  go_wp2_with fail
  refine ah.out.mono ?_;rintro e w1⟨rfl,an⟩;obtain rfl:=an.symm;go_wp2;exact bodyPost_ret (v:=.tuple #[.agg #[.int .u64 0,.int .u64 0,.string ⟨#[]⟩],.int .i64 170]) (by simp [results,Tryz.results202,go_sem]) rfl ⟨rfl,ow,zp.of_below t ow (pbx),_,_,_,_,_,(zw.loc B px sb lb pb av n t).below hN (pbx)⟩
 have a1:n.down=false:=by simpa using hd
 rw [if_neg hd] at ac;rw [a1] at ah;replace ah:=hid ah;replace hd:=hid hd;replace a1:=hid a1
 by_cases he:er=0
 ·subst he
  rw [if_neg (by simp)] at ac;have al:=λaj w1 h1 W h2 kb kc g h3 h4 k0 k1 kg=>YL B {n with pax:=p'} t ht aj w1 h1 hcap true [rc] (by simp) (by simp) (by simp;omega) W h2 kb kc g h3 h4 k0 k1 kg
  rw [show [rc].flatten=rc by simp] at al;unfold YK at al;obtain⟨⟨m,ek⟩,hm⟩:∃R,yk {n with pax:=p'} true rc=R:=⟨_,rfl⟩;rw [hm] at al ac;simp only at al ac;replace al:=hid al;replace hm:=hid hm
  by_cases hek:ek=0
  ·subst hek
   rw [if_neg (by simp)] at ac;rw [ac];have t2:((0:Int) !=0)=false:=rfl;replace ac:=hid ac
   go_enter func202,ntmps202
   go_wp2_with fail
   refine ah.out.mono ?_;rintro e w1⟨rfl,an⟩;obtain rfl:=an.symm;go_wp2_with fail
   refine(ab.out _ am.pax).mono ?_;rintro e w1⟨rfl,aj,af,h1⟩;have ay:=am.setPax _ af h1;have k6:=(Blk.new (w:=w) (cs:=#[.int .u64 0,.int .u64 0,.string ⟨#[]⟩]) (t:=317) rfl).kept (af.free (by simp) (N0 _) (by simp)).1;have ar:=(af.free (by simp) (N0 _) (by simp)).2;have aa:zp t ow w aj w1:=zp.wrap (w:=w) ((N2 w.heap.size w).alloc (N0 _) (.cells #[.int .u64 0,.int .u64 0,.string ⟨#[]⟩] 317)) (af.mono (Sub.child t 0));have ba:=aa.size;have l6:=k6.lt;go_wp2_with fail
   refine(xw _ _ _).mono ?_;rintro e w2⟨rfl,rfl⟩;obtain⟨Wc,ae⟩:∃Wc,Wc=(((w1.alloc (.cells #[.int .u64 v1,.int .u64 v2,.string (bs v3)] 317)).alloc (.cells #[.pointer (some ⟨B,0,none⟩)] 43)).alloc (.cells #[.bool true] 4)).alloc (.cells #[.string (bs rc)] 9):=⟨_,rfl⟩;have ax:Below w1.heap.size w1 Wc:=by rw [ae];exact pbx
   have kv:Blk Wc w1.heap.size #[.int .u64 v1,.int .u64 v2,.string (bs v3)] 317:=by rw [ae];exact bkx
   have a3:Blk Wc (w1.heap.size+1) #[.pointer (some ⟨B,0,none⟩)] 43:=by rw [ae];exact bkx
   have a0:Blk Wc (w1.heap.size+1+1) #[.bool true] 4:=by rw [ae];exact bkx
   have a4:Blk Wc (w1.heap.size+1+1+1) #[.string (bs rc)] 9:=by rw [ae];exact bkx
   go_wp2_with fail
   rw [← ae];clear ae;refine(al.out aj w1 ⟨_,_,_,_,_,ay⟩ Wc ax (w1.heap.size+1) (w1.heap.size+1+1) _ (by omega) (by omega) a3 a0 a4).mono ?_;rintro e w3⟨rfl,ao,ap,a5,ai⟩;have az:=kv.lt;have au:=kv.kept (ai _ (N0 _) az).1;have bd:=k6.kept (ax.block _ l6);have ak:Blk w3 w.heap.size #[.int .u64 0,.int .u64 0,.string ⟨#[]⟩] 317:=k6.kept (ap.block l6 (by rw [ar];exact zj ht));have aq:ao w.heap.size=[]:=(ap.agree _ l6).trans ar;have ad:zp t ow w ao w3:=aa.trans ap;have bb:=au.cell;have bc:=au.lt;have a6:=ak.cell;have a9:=ak.frozen;have a7:=ak.lt;have rr:=(((ak.set (o:=0) (.int .u64 v1)).set (o:=1) (.int .u64 v2)).set (o:=2) (.string (bs v3))).cell;go_wp2;exact bodyPost_ret (v:=.tuple #[.agg #[.int .u64 v1,.int .u64 v2,.string (bs v3)],.int .i64 0]) (by simp [results,Tryz.results202,go_sem,rr]) rfl ⟨rfl,ao,((ad.setNew ⟨w.heap.size,0,none⟩ _ (N0 _)).setNew ⟨w.heap.size,1,none⟩ _ (N0 _)).setNew ⟨w.heap.size,2,none⟩ _ (N0 _),ql ht a5 aq _ _ _⟩
  rw [if_pos hek] at ac
  rw [ac];have t2:(ek !=0)=true:=by simpa using hek
  replace ac:=hid ac;replace hek:=hid hek
  go_enter func202,ntmps202
  go_wp2_with fail
  refine ah.out.mono ?_;rintro e w1⟨rfl,an⟩;obtain rfl:=an.symm;go_wp2_with fail
  refine(ab.out _ am.pax).mono ?_;rintro e w1⟨rfl,aj,af,h1⟩;have ay:=am.setPax _ af h1;have k6:=(Blk.new (w:=w) (cs:=#[.int .u64 0,.int .u64 0,.string ⟨#[]⟩]) (t:=317) rfl).kept (af.free (by simp) (N0 _) (by simp)).1;have ar:=(af.free (by simp) (N0 _) (by simp)).2;have aa:zp t ow w aj w1:=zp.wrap (w:=w) ((N2 w.heap.size w).alloc (N0 _) (.cells #[.int .u64 0,.int .u64 0,.string ⟨#[]⟩] 317)) (af.mono (Sub.child t 0));have ba:=aa.size;have l6:=k6.lt;go_wp2_with fail
  refine(xw _ _ _).mono ?_;rintro e w2⟨rfl,rfl⟩;obtain⟨Wc,ae⟩:∃Wc,Wc=(((w1.alloc (.cells #[.int .u64 v1,.int .u64 v2,.string (bs v3)] 317)).alloc (.cells #[.pointer (some ⟨B,0,none⟩)] 43)).alloc (.cells #[.bool true] 4)).alloc (.cells #[.string (bs rc)] 9):=⟨_,rfl⟩;have ax:Below w1.heap.size w1 Wc:=by rw [ae];exact pbx
  have kv:Blk Wc w1.heap.size #[.int .u64 v1,.int .u64 v2,.string (bs v3)] 317:=by rw [ae];exact bkx
  have a3:Blk Wc (w1.heap.size+1) #[.pointer (some ⟨B,0,none⟩)] 43:=by rw [ae];exact bkx
  have a0:Blk Wc (w1.heap.size+1+1) #[.bool true] 4:=by rw [ae];exact bkx
  have a4:Blk Wc (w1.heap.size+1+1+1) #[.string (bs rc)] 9:=by rw [ae];exact bkx
  go_wp2_with fail
  rw [← ae];clear ae;refine(al.out aj w1 ⟨_,_,_,_,_,ay⟩ Wc ax (w1.heap.size+1) (w1.heap.size+1+1) _ (by omega) (by omega) a3 a0 a4).mono ?_;rintro e w3⟨rfl,ao,ap,a5,ai⟩;have az:=kv.lt;have au:=kv.kept (ai _ (N0 _) az).1;have bd:=k6.kept (ax.block _ l6);have ak:Blk w3 w.heap.size #[.int .u64 0,.int .u64 0,.string ⟨#[]⟩] 317:=k6.kept (ap.block l6 (by rw [ar];exact zj ht));have aq:ao w.heap.size=[]:=(ap.agree _ l6).trans ar;have ad:zp t ow w ao w3:=aa.trans ap;have bb:=au.cell;have bc:=au.lt;have a6:=ak.cell;have a9:=ak.frozen;have a7:=ak.lt;have rr:=(((ak.set (o:=0) (.int .u64 0)).set (o:=1) (.int .u64 0)).set (o:=2) (.string ⟨#[]⟩)).cell;go_wp2;exact bodyPost_ret (v:=.tuple #[.agg #[.int .u64 0,.int .u64 0,.string ⟨#[]⟩],.int .i64 ek]) (by simp [results,Tryz.results202,go_sem,rr]) rfl ⟨rfl,ao,((ad.setNew ⟨w.heap.size,0,none⟩ _ (N0 _)).setNew ⟨w.heap.size,1,none⟩ _ (N0 _)).setNew ⟨w.heap.size,2,none⟩ _ (N0 _),ql ht a5 aq _ _ _⟩
 rw [if_pos he] at ac
 rw [ac];have t1:(er !=0)=true:=by simpa using he
 have a8:=ag.out he;subst a8;replace ac:=hid ac;replace he:=hid he
 go_enter func202,ntmps202
 go_wp2_with fail
 refine ah.out.mono ?_;rintro e w1⟨rfl,an⟩;obtain rfl:=an.symm;go_wp2_with fail
 refine(ab.out _ am.pax).mono ?_;rintro e w1⟨rfl,aj,af,h1⟩;have ay:=am.setPax _ af h1;have k6:=(Blk.new (w:=w) (cs:=#[.int .u64 0,.int .u64 0,.string ⟨#[]⟩]) (t:=317) rfl).kept (af.free (by simp) (N0 _) (by simp)).1;have ar:=(af.free (by simp) (N0 _) (by simp)).2;have c6:=k6.cell;have f6:=k6.frozen;have l6:=k6.lt;have rr:=((((k6.set (o:=0) (.int .u64 0)).set (o:=1) (.int .u64 0)).set (o:=2) (.string ⟨#[]⟩)).alloc (.cells #[.int .u64 v1,.int .u64 v2,.string (bs v3)] 317)).cell;have aa:zp t ow w aj w1:=zp.wrap (w:=w) ((N2 w.heap.size w).alloc (N0 _) (.cells #[.int .u64 0,.int .u64 0,.string ⟨#[]⟩] 317)) (af.mono (Sub.child t 0));go_wp2;refine bodyPost_ret (v:=.tuple #[.agg #[.int .u64 0,.int .u64 0,.string ⟨#[]⟩],.int .i64 er]) (by simp [results,Tryz.results202,go_sem,rr]) rfl ⟨rfl,aj,?_,?_⟩
 ·exact(((aa.setNew ⟨w.heap.size,0,none⟩ _ (N0 _)).setNew ⟨w.heap.size,1,none⟩ _ (N0 _)).setNew ⟨w.heap.size,2,none⟩ _ (N0 _)).trans (zp.alloc _ _ _ _)
 exact(jH.loc B n t).below (ql ht ⟨_,_,_,_,_,ay⟩ ar _ _ _) ((N2 _ _).alloc (N0 _) _)
theorem ziL(ep:Nat)(ve st:Int)(w:World):(Instr.field 197 (.agg #[.int .u32 ep,.int .i64 ve,.int .i64 st]) 1).run prog w=.ok (.int .i64 ve) w:=by
 first|kernel_rfl|rfl|simp [go_sem]
theorem ziM {px sb lb pb:Nat}{av:Value}(B:Nat)(n:zq)(t:List Nat)(ow:Own)(v:Int)(w:World)(hN:zw B px sb lb pb av n t ow w)(hl:n.loc.fold.eras.length<=536870912):
 Calls prog 64 #[.pointer (some ⟨B,0,none⟩),.int .i64 v] w (Zt B (JR n v).1 t ow w (.int .i64 (JR n v).2)):=by
 have hB:=hN.blk;have hr:=xu w hB;have ab:=λW hW=>V4 lb n.loc (t++ [2]) ow W hW hl
 have aa:JR n v=if n.down then(n,170)else if j4 (vo n.loc.fold.eras).2.1 v≠0 then(n,j4 (vo n.loc.fold.eras).2.1 v)else({n with wanted:=v},0):=rfl
 have hw:=λm W (W':World) (h:zw B px sb lb pb av n t ow W)=>h.setOwn (W':=W') m
 unfold zD at hB hw;unfold Yp at hr;have e0:=hB.cell;obtain⟨⟨ep,ve,st⟩,hn⟩:∃x,vo n.loc.fold.eras=x:=⟨_,rfl⟩;rw [hn] at ab aa;unfold Yh at ab;simp only at ab aa;have aj:=ziL ep ve st;replace ab:=hid ab;replace hn:=hid hn;replace hw:=hid hw
 by_cases hd:n.down=true
 ·rw [if_pos hd] at aa
  rw [hd] at hr;rw [aa];replace aa:=hid aa;replace hr:=hid hr;replace hd:=hid hd
  go_enter func64,ntmps64
  go_wp2_with fail
  refine hr.out.mono ?_;rintro e w1⟨rfl,ac⟩;obtain rfl:=ac.symm;go_wp2;go_ret
  exact⟨rfl,ow,zp.refl _ _ _,_,_,_,_,_,hN⟩
 have af:n.down=false:=by simpa using hd
 rw [if_neg hd] at aa;rw [af] at hr;replace hr:=hid hr;replace hd:=hid hd;replace af:=hid af;obtain⟨er,ag⟩:∃er,j4 ve v=er:=⟨_,rfl⟩;have ad:=λW=>qc ve v W
 rw [ag] at ad aa;replace ag:=hid ag;replace ad:=hid ad
 by_cases he:er=0
 ·subst he
  rw [if_neg (by simp)] at aa;rw [aa];replace aa:=hid aa
  go_enter func64,ntmps64
  go_wp2_with fail
  refine hr.out.mono ?_;rintro e w1⟨rfl,ac⟩;obtain rfl:=ac.symm;go_wp2_with fail
  refine(ab.out _ hN.lo).mono ?_;rintro e w1⟨rfl,ai⟩;go_wp2_with fail
  refine(ad.out _).mono ?_;rintro e w2⟨rfl,ah⟩;have hb:=ze ai ah;have ae:=hB.call hb;have c2:=ae.cell;have f2:=ae.frozen;have l2:=ae.lt;go_wp2;go_ret
  have hq:=hw.out {n with wanted:=v} w2 (w2.setCell ⟨B,10,none⟩ (.int .i64 v)) ((zw.loc B px sb lb pb av n t).below hN hb) ((Mod.refl (λk=>k=B) w2).thenSet (p:=⟨B,10,none⟩) rfl _) (ae.set (o:=10) _) rfl rfl rfl rfl rfl rfl;exact⟨rfl,ow,(zp.of_below t ow hb).trans hq.1,_,_,_,_,_,hq.2⟩
 rw [if_pos he] at aa
 rw [aa];have t1:(er !=0)=true:=by simpa using he
 replace aa:=hid aa;replace he:=hid he
 go_enter func64,ntmps64
 go_wp2_with fail
 refine hr.out.mono ?_;rintro e w1⟨rfl,ac⟩;obtain rfl:=ac.symm;go_wp2_with fail
 refine(ab.out _ hN.lo).mono ?_;rintro e w1⟨rfl,ai⟩;go_wp2_with fail
 refine(ad.out _).mono ?_;rintro e w2⟨rfl,ah⟩;have hb:=ze ai ah;go_wp2;go_ret
 exact⟨rfl,ow,zp.of_below t ow hb,_,_,_,_,_,(zw.loc B px sb lb pb av n t).below hN hb⟩
theorem zw.setAcc {B px sb lb pb:Nat}{av v':Value}{n:zq}{t:List Nat}{ow:Own}{W W4:World}(h:zw B px sb lb pb av n t ow W)(l:List zx)(hrow:Row W4 78 3 v' (n.acc.length+l.length) (n.acc.flatMap zh++l.flatMap zh))
 (hgr:W.grownBy W4 av.ownBlock) (hown:v'.ownBlock=av.ownBlock∨v'.ownBlock=some W.heap.size):
 zp t ow W (ow.ext W.heap.size (λk=>v'.ownBlock=some k) (t++ [4])) (W4.setCell ⟨B,7,none⟩ v')/\zw B px sb lb pb v' {n with acc:=n.acc++l} t (ow.ext W.heap.size (λk=>v'.ownBlock=some k) (t++ [4])) (W4.setCell ⟨B,7,none⟩ v'):=by
 have aa:∀g,av.ownBlock=some g->g≠B:=λg hg=>h.row.ne_blk h.blk (by decide) hg
 have ac:=h.blk.lt;have ad:=h.blk.kept (hgr.block B ac (λe=>aa B e.symm rfl))
 have ab:∀g,v'.ownBlock=some g->(av.ownBlock=some g∨g=W.heap.size):=λg hg=>by
  rw [hg] at hown
  rcases hown with h|h
  ·exact .inl h.symm
  right;simpa using h
 have hM:Mod (λk=>k=B∨av.ownBlock=some k) W (W4.setCell ⟨B,7,none⟩ v'):=(Mod.grown (X:=λk=>k=B∨av.ownBlock=some k) hgr (λk h=>.inr h)).thenSet (p:=⟨B,7,none⟩) (.inl rfl) _
 have hk:∀(i:Nat),i≠4->∀k,k<W.heap.size->Sub (t++ [i]) (ow k)->(ow.ext W.heap.size (λk=>v'.ownBlock=some k) (t++ [4])) k=ow k/\(W4.setCell ⟨B,7,none⟩ v').heap[k]?=W.heap[k]?:=λi hi k hk hs=>⟨Own.ext_old hk,hM.block k hk (λe=>by
  rcases e with e|e
  ·subst e;exact Z6 t i h.own hs
  exact J1 t hi (h.rown k e) hs)⟩
 refine⟨⟨hM.mono (λk _ e=>?_),λk hk=>Own.ext_old hk⟩,⟨ad.set (o:=7) _,yI.loc _ _ _ _ _ _ _ h.pax hM.size (hk 0 (by decide)),jF.loc _ _ _ _ _ _ _ h.st hM.size (hk 1 (by decide)),zL.loc _ _ _ _ _ _ _ h.lo hM.size (hk 2 (by decide)),jY.loc _ _ _ _ _ _ _ h.pool hM.size (hk 3 (by decide)),?_,?_,λg hg=>?_,h.bad⟩⟩
 ·rcases e with e|e
  ·subst e;rw [h.own];exact Sub.rfl' _
  rw [h.rown k e];exact Sub.child t 4
 ·show Row _ _ 3 v' (n.acc++l).length ((n.acc++l).flatMap zh)
  rw [N1,U5];refine Row.kept (w:=W4) hrow (λg hg=>N4 _ _ _ _ (show g≠B from ?_))
  rcases ab g hg with h1|h1
  ·exact aa g h1
  omega
 ·rw [Own.ext_old ac,h.own]
 rcases ab g hg with h1|h1
 ·rw [Own.ext_old (h.row.lt h1),h.rown g h1]
 rw [Own.ext_new (by omega) hg]
def ziN(r:zx×Int):Value:=.tuple #[vO r.1,.int .i64 r.2]
theorem X5:∀(k:Nat)(n:zq),n.acc.length<=k+n.offered->jR (k+1) n=jR k n
 |0,n,h=>by
  have hx:n.acc[n.offered]?=none:=List.getElem?_eq_none (by omega);unfold jR;simp only [hx];try rfl
 |k+1,n,h=>by
  rw [jR]
  conv=>rhs;rw [jR]
  cases hx:n.acc[n.offered]? with
  |none=>rfl
  |some m=>
   simp only
   split
   ·exact X5 k _ (by show n.acc.length<=k+(n.offered+1);omega)
   rfl
theorem Vl {B:Nat}{m:zq}{t:List Nat}{ow ow':Own}{w w':World}(hs:zp t ow w ow' w')(h:jH B m t ow' w')(er:Int):Zt B m t ow w (ziN (((0,0),[]),er)) (.returned (.tuple #[.agg #[.int .i64 0,.int .u32 0,.string ⟨#[]⟩],.int .i64 er])) w':=⟨rfl,ow',hs,h⟩
theorem QG {px sb lb pb:Nat}{av:Value}(B:Nat)(n:zq)(t:List Nat)(ht:t≠ [])(ow:Own)(d:List UInt8)(hdl:d.length<=1000000)(w:World)(hN:zw B px sb lb pb av n t ow w)(hcap:vx n.store)(hal:n.acc.length<=200000):
 Calls prog 46 #[.pointer (some ⟨B,0,none⟩),.string (bs d)] w (Zt B (zG n d).1 t ow w (ziN (zG n d).2)):=by
 have hB:=hN.blk
 have ac:zG n d=if n.down then(n,((0,0),[]),170)
  else if zz ((n.id,n.acc.length+1),d)=false then(n,((0,0),[]),100)
  else if(yk n false ([109] ++(yj [((n.id,n.acc.length+1),d)]).1)).2≠0 then((yk n false ([109] ++(yj [((n.id,n.acc.length+1),d)]).1)).1,((0,0),[]),(yk n false ([109] ++(yj [((n.id,n.acc.length+1),d)]).1)).2)
  else(jR (n.acc.length+1) {(yk n false ([109] ++(yj [((n.id,n.acc.length+1),d)]).1)).1 with acc:=n.acc++ [((n.id,n.acc.length+1),d)] },((n.id,n.acc.length+1),d),0):=rfl
 have ct:=(zw.loc B px sb lb pb av n t).cut hN ((N2 w.heap.size w).alloc (N0 _) (.cells #[.int .i64 0,.int .u32 0,.string ⟨#[]⟩] 78));have ao:=xu _ ct.blk;unfold Yp at ao;obtain⟨va,vc,rfl⟩:=hN.row.src.shape;unfold zD at hB;have e0:=hB.cell;have l0:=hB.lt;have ay:IntKind.u32.wrap (n.acc.length:Int)=(n.acc.length:Int):=by rw [IntKind.wrap_u32];omega
 by_cases hd:n.down=true
 ·rw [if_pos hd] at ac
  rw [hd] at ao;rw [ac];replace ac:=hid ac;replace ao:=hid ao;replace hd:=hid hd
  go_enter func46,ntmps46
  go_wp2_with fail
  refine ao.out.mono ?_;rintro e w1⟨rfl,ay⟩;obtain rfl:=ay.symm;go_wp2;exact bodyPost_ret (v:=.tuple #[.agg #[.int .i64 0,.int .u32 0,.string ⟨#[]⟩],.int .i64 170]) (by simp [results,Tryz.results46,go_sem]) rfl (Vl (zp.of_below t ow (pbx)) ⟨_,_,_,_,_,(zw.loc B px sb lb pb _ n t).below hN (pbx)⟩ 170)
 have b8:n.down=false:=by simpa using hd
 rw [if_neg hd] at ac;rw [b8] at ao;replace ao:=hid ao;replace hd:=hid hd;replace b8:=hid b8;obtain⟨c,hc⟩:∃c,n.acc.length+1=c:=⟨_,rfl⟩;have c4:(n.acc.length:Int)+1=(c:Int):=by omega
 have c5:IntKind.u32.wrap ((n.acc.length:Int)+1)=(c:Int):=by rw [IntKind.wrap_u32];omega
 have c1:IntKind.u32.wrap (c:Int)=(c:Int):=by rw [IntKind.wrap_u32];omega
 rw [hc] at ac;have aa:=λW=>vS n.id c d W
 cases hr:zz ((n.id,c),d)
 ·rw [if_pos hr] at ac
  rw [hr] at aa;rw [ac];replace ac:=hid ac;replace aa:=hid aa;replace hr:=hid hr;replace hc:=hid hc
  go_enter func46,ntmps46
  go_wp2_with fail
  refine ao.out.mono ?_;rintro e w1⟨rfl,ay⟩;obtain rfl:=ay.symm;go_wp2_with fail
  apply JD (Wp:=λw'=>Below w.heap.size w w'/\Blk w' w.heap.size #[.int .i64 0,.int .u32 0,.string ⟨#[]⟩] 78/\Blk w' (w.heap.size+1) #[.int .i64 n.id,.int .u32 c,.string (bs d)] 78)
  case h=>
   go_region_with fail
   all_goals go_simp
   all_goals exact JC ⟨pbx,bkx,bkx⟩
  case' h2=>
  rintro w1⟨ba,bh,am⟩;have bd:=am.cell;have bc:=am.lt;go_wp2_with fail
  refine(aa.out _).mono ?_;rintro e w2⟨rfl,ak⟩;have ah:=bh.call ak;have ap:=am.call ak;have ai:=ze ba ak;have bm:=ah.cell;have bi:=ah.frozen;have bn:=ah.lt;have bk:=ap.cell;have bo:=ap.lt;clear bd bc;have rr:=(((ah.set (o:=0) (.int .i64 0)).set (o:=1) (.int .u32 0)).set (o:=2) (.string ⟨#[]⟩)).cell;go_wp2;exact bodyPost_ret (v:=.tuple #[.agg #[.int .i64 0,.int .u32 0,.string ⟨#[]⟩],.int .i64 100]) (by simp [results,Tryz.results46,go_sem,rr]) rfl (Vl (zp.of_below t ow (zu (zu (zu ai (by simp) _) (by simp) _) (by simp) _)) ⟨_,_,_,_,_,(zw.loc B px sb lb pb _ n t).below hN (zu (zu (zu ai (by simp) _) (by simp) _) (by simp) _)⟩ 100)
 rw [if_neg (by simp [hr])] at ac
 rw [hr] at aa;have al:=za4 hr;obtain⟨pk,bl⟩:∃pk,[1] ++jk ((n.id,c),d)=pk:=⟨_,rfl⟩;rw [bl] at al;rw [al] at ac;simp only at ac
 have cz:pk.length<=1010:=by
  rw [← bl];have:d.length<=1000:=by simp [zz] at hr;omega
  simp [jk,zY];omega
 have ad:=λv W hW=>zeZ v [((n.id,c),d)] W hW (by simp)
 rw [al] at ad;have az:=λW h2 kb kc g h3 h4 k0 k1 kg=>YL B n t ht ow w ⟨_,_,_,_,_,hN⟩ hcap false [[109],pk] (by simp) (by simp) (by simp;omega) W h2 kb kc g h3 h4 k0 k1 kg
 rw [show [[109],pk].flatten=[109] ++pk by simp] at az;unfold YK at az;have a7:(yk n false ([109] ++pk)).1.acc=n.acc:=rfl;obtain⟨⟨m,ek⟩,hm⟩:∃R,yk n false ([109] ++pk)=R:=⟨_,rfl⟩;rw [hm] at az ac a7;simp only at az ac a7;replace az:=hid az;replace hm:=hid hm;replace ad:=hid ad;replace aa:=hid aa;replace hr:=hid hr;replace hc:=hid hc;replace bl:=hid bl;replace al:=hid al;replace a7:=hid a7
 by_cases hek:ek=0
 ·subst hek
  rw [if_neg (by simp)] at ac;rw [ac];have t3:((0:Int) !=0)=false:=rfl;replace ac:=hid ac
  go_enter func46,ntmps46
  go_wp2_with fail
  refine ao.out.mono ?_;rintro e w1⟨rfl,ay⟩;obtain rfl:=ay.symm;go_wp2_with fail
  apply JD (Wp:=λw'=>Below w.heap.size w w'/\Blk w' w.heap.size #[.int .i64 0,.int .u32 0,.string ⟨#[]⟩] 78/\Blk w' (w.heap.size+1) #[.int .i64 n.id,.int .u32 c,.string (bs d)] 78)
  case h=>
   go_region_with fail
   all_goals go_simp
   all_goals exact JC ⟨pbx,bkx,bkx⟩
  case' h2=>
  rintro w1⟨ba,bh,am⟩;have bd:=am.cell;have bc:=am.lt;go_wp2_with fail
  refine(aa.out _).mono ?_;rintro e w2⟨rfl,ak⟩;have ah:=bh.call ak;have ap:=am.call ak;have ai:=ze ba ak;have bm:=ah.cell;have bi:=ah.frozen;have bn:=ah.lt;have bk:=ap.cell;have bo:=ap.lt;clear bd bc;go_wp2_with fail
  refine(ad.out _ _ (jD (n:=1) (size:=3) (cap:=1) (Blk.new (w:=w2) (cs:=#[.int .i64 n.id,.int .u32 c,.string (bs d)]) (t:=78) rfl) rfl (N0 1))).mono ?_;rintro e w4⟨rfl,bv⟩;have af:Below w2.heap.size w2 w4:=ze (zi (N2 _ _) _) bv;have a5:=ze ai af;have bp:=ah.call af;have b2:=ap.call af;clear bm bi bn bk bo;go_wp2_with fail
  refine(xw _ _ _).mono ?_;rintro e w5⟨rfl,rfl⟩;obtain⟨Wc,ae⟩:∃Wc,Wc=((w4.alloc (.cells #[.pointer (some ⟨B,0,none⟩)] 43)).alloc (.cells #[.bool false] 4)).alloc (.cells #[.string ⟨#[109]⟩,.string (bs pk)] 9):=⟨_,rfl⟩;have b0:Below w.heap.size w Wc:=by rw [ae];exact pbx
  have bw:Blk Wc w4.heap.size #[.pointer (some ⟨B,0,none⟩)] 43:=by rw [ae];exact bkx
  have b6:Blk Wc (w4.heap.size+1) #[.bool false] 4:=by rw [ae];exact bkx
  have bz:Blk Wc (w4.heap.size+1+1) #[.string ⟨#[109]⟩,.string (bs pk)] 9:=by rw [ae];exact bkx
  have a6:Blk Wc w.heap.size #[.int .i64 0,.int .u32 0,.string ⟨#[]⟩] 78:=by rw [ae];exact((bp.alloc _).alloc _).alloc _
  have a2:Blk Wc (w.heap.size+1) #[.int .i64 n.id,.int .u32 c,.string (bs d)] 78:=by rw [ae];exact((b2.alloc _).alloc _).alloc _
  have b9:=a5.size;go_wp2_with fail
  rw [← ae];clear ae;refine(az.out Wc b0 w4.heap.size (w4.heap.size+1) _ b9 (by omega) bw b6 bz).mono ?_;rintro e w6⟨rfl,ca,b1,bt,ab⟩;have aj:=a6.kept (ab _ (N0 _) a6.lt).1;have a4:=a2.kept (ab _ (by omega) a2.lt).1;have aq:=(ab _ (N0 _) a6.lt).2;have a0:=(ab _ (by omega) a2.lt).2;have ch:=aj.cell;have cd:=aj.frozen;have cp:=aj.lt;obtain⟨cg,cn,cl,cm,c6,hI⟩:=bt;have ax:m.acc.length=n.acc.length:=by rw [a7.out]
  have a8:=hI.blk;obtain⟨co,cj,bu⟩:=hI.row.src.shape;subst bu;unfold zD at a8;have ck:=(zw.loc B cg cn cl cm _ m t).below hI (zm (zi (N2 w6.heap.size w6) (.cells #[.int .i64 n.id,.int .u32 c,.string (bs d)] 78)));have bf:Src (w6.alloc (.cells #[.int .i64 n.id,.int .u32 c,.string (bs d)] 78)).drew (.slice (some ⟨w6.heap.size,0,none⟩) 1 1) 3 1 #[.int .i64 n.id,.int .u32 c,.string (bs d)].toList:=jD (n:=1) (size:=3) (cap:=1) (Blk.drew (Blk.new (w:=w6) (cs:=#[.int .i64 n.id,.int .u32 c,.string (bs d)]) (t:=78) rfl)) rfl (N0 1);obtain⟨v',W8,a1,ag,bj,a3⟩:=zM zdI ck.row bf (jA [((n.id,c),d)]) (by rw [ax];omega) 42
  have an:∀g,(Value.slice co m.acc.length cj).ownBlock=some g->g≠B/\g≠w.heap.size+1/\g≠w.heap.size:=λg hg=>by
   refine⟨hI.row.ne_blk hI.blk (by decide) hg,λe=>?_,λe=>?_⟩
   ·have h1:=hI.rown g hg
    rw [e,a0] at h1;simp at h1
   have h1:=hI.rown g hg
   rw [e,aq] at h1;simp at h1
  have a9:=a8.kept (w':=W8) ((bj.block B (by have:=a8.lt;simp;omega) (λe=>(an B e.symm).1 rfl)).trans (U4 w6 _ B a8.lt));have ce:=a4.kept (w':=W8) ((bj.block _ (by have:=a4.lt;simp;omega) (λe=>(an _ e.symm).2.1 rfl)).trans (U4 w6 _ _ a4.lt));obtain⟨cq,ci⟩:=ck.setAcc [((n.id,c),d)] ag bj a3;obtain⟨sa,sm,sc,rfl⟩:=ag.shape;have cc:=a9.cell;have b5:=a9.frozen;have c2:=a9.lt;replace ag:=hid ag;replace a3:=hid a3;replace an:=hid an;replace a1:=hid a1;replace ax:=hid ax;go_wp2_with fail
  refine zd [O 0,O 1,O 2,O 3,O 4,O 5,E 6,E 7,O 8,O 9,E 10] (some 10) (λw'=>Blk w' B #[.pointer (some ⟨cg,0,none⟩),.int .i64 m.id,.int .i64 m.version,.slice none 0 0,.pointer (some ⟨cn,0,none⟩),.pointer (some ⟨cl,0,none⟩),.pointer (some ⟨cm,0,none⟩),.slice co m.acc.length cj,.int .i64 (m.offered:Nat),.int .i64 (m.applied:Nat),.int .i64 m.wanted,.bool m.down] 98/\Blk w' (w.heap.size+1) #[.int .i64 n.id,.int .u32 c,.string (bs d)] 78/\True) (by kernel_rfl) (by kernel_rfl) ⟨a8.drew,a4.drew,trivial⟩ ?_;clear cc b5
  refine Wb ?_
  refine zc rfl (λK hK=>?_);go_wp2;refine hK.out _ _ (λ_=>⟨(a8.alloc _).drew,(a4.alloc _).drew,trivial⟩) ?_;clear hK K;refine zc rfl (λK hK=>?_);refine zv rfl _ _ _ rfl rfl rfl a1.out ?_;unfold wpList;refine hK.out _ _ (λ_=>⟨a9,ce,trivial⟩) ?_;clear hK K
  refine Wb ?_
  have b5:=a9.frozen;have cc:=a9.cell;refine zc rfl (λK hK=>?_);go_wp2;refine hK.out _ _ (λhh=>absurd rfl hh) ?_;clear hK K b5 cc;refine zg ?_
  generalize hO9:ca.ext (w6.alloc (.cells #[.int .i64 n.id,.int .u32 c,.string (bs d)] 78)).drew.heap.size (λk=>(Value.slice sa sm sc).ownBlock=some k) (t++ [4])=ow9 at cq ci
  have bb:ow9 w.heap.size=[]:=by rw [← hO9];exact(Own.ext_old (by have:=aj.lt;simp;omega)).trans aq
  have b4:ow9 (w.heap.size+1)=[]:=by rw [← hO9];exact(Own.ext_old (by have:=a4.lt;simp;omega)).trans a0
  have cb:w.heap.size≠B:=by omega
  have be:w.heap.size+1≠B:=by omega
  have br:=(aj.kept (w':=W8) ((bj.block _ (by have:=aj.lt;simp;omega) (λe=>(an.out _ e.symm).2.2 rfl)).trans (U4 w6 _ _ aj.lt))).other (p:=⟨B,7,none⟩) cb (.slice sa sm sc);have cf:=ce.other (p:=⟨B,7,none⟩) be (.slice sa sm sc);have ar:=Vk B _ t ow9 _ ⟨_,_,_,_,_,ci⟩ (by show(m.acc++ [((n.id,c),d)]).length<=_;rw [N1,ax.out];simp;omega)
  have c0:jR ((m.acc++ [((n.id,c),d)]).length+1) {m with acc:=m.acc++ [((n.id,c),d)] } =jR c {m with acc:=n.acc++ [((n.id,c),d)] } :=by
   rw [a7.out,N1,U2,hc.out];exact X5 c _ (by show(n.acc++_).length<=_;rw [N1,U2,hc.out];omega)
  rw [c0] at ar;have cr:zp t ow w ow9 (W8.setCell ⟨B,7,none⟩ (.slice sa sm sc)):=b1.trans ((zp.of_below t ca (zm (zi (N2 w6.heap.size w6) _))).trans cq);replace ar:=hid ar;go_wp2_with fail
  refine ar.out.mono ?_;rintro e c3⟨rfl,bq,au,b7⟩;have aw:=br.kept (au.block br.lt (by rw [bb];exact zj ht));have b3:=cf.kept (au.block cf.lt (by rw [b4];exact zj ht));have bg:=(au.agree _ br.lt).trans bb;have cy:=aw.cell;have cu:=aw.frozen;have cv:=aw.lt;have cw:=b3.cell;clear ch cd cp;have rr:=(((aw.set (o:=0) (.int .i64 n.id)).set (o:=1) (.int .u32 c)).set (o:=2) (.string (bs d))).cell;have cx:=cr.trans au;go_wp2;exact bodyPost_ret (v:=.tuple #[.agg #[.int .i64 n.id,.int .u32 c,.string (bs d)],.int .i64 0]) (by simp [results,Tryz.results46,go_sem,rr]) rfl ⟨rfl,bq,((cx.setNew ⟨w.heap.size,0,none⟩ _ (N0 _)).setNew ⟨w.heap.size,1,none⟩ _ (N0 _)).setNew ⟨w.heap.size,2,none⟩ _ (N0 _),ql ht b7 bg _ _ _⟩
 rw [if_pos hek] at ac
 rw [ac];have t3:(ek !=0)=true:=by simpa using hek
 replace ac:=hid ac;replace hek:=hid hek
 go_enter func46,ntmps46
 go_wp2_with fail
 refine ao.out.mono ?_;rintro e w1⟨rfl,ay⟩;obtain rfl:=ay.symm;go_wp2_with fail
 apply JD (Wp:=λw'=>Below w.heap.size w w'/\Blk w' w.heap.size #[.int .i64 0,.int .u32 0,.string ⟨#[]⟩] 78/\Blk w' (w.heap.size+1) #[.int .i64 n.id,.int .u32 c,.string (bs d)] 78)
 case h=>
  go_region_with fail
  all_goals go_simp
  all_goals exact JC ⟨pbx,bkx,bkx⟩
 case' h2=>
 rintro w1⟨ba,bh,am⟩;have bd:=am.cell;have bc:=am.lt;go_wp2_with fail
 refine(aa.out _).mono ?_;rintro e w2⟨rfl,ak⟩;have ah:=bh.call ak;have ap:=am.call ak;have ai:=ze ba ak;have bm:=ah.cell;have bi:=ah.frozen;have bn:=ah.lt;have bk:=ap.cell;have bo:=ap.lt;clear bd bc;go_wp2_with fail
 refine(ad.out _ _ (jD (n:=1) (size:=3) (cap:=1) (Blk.new (w:=w2) (cs:=#[.int .i64 n.id,.int .u32 c,.string (bs d)]) (t:=78) rfl) rfl (N0 1))).mono ?_;rintro e w4⟨rfl,bv⟩;have af:Below w2.heap.size w2 w4:=ze (zi (N2 _ _) _) bv;have a5:=ze ai af;have bp:=ah.call af;have b2:=ap.call af;clear bm bi bn bk bo;go_wp2_with fail
 refine(xw _ _ _).mono ?_;rintro e w5⟨rfl,rfl⟩;obtain⟨Wc,ae⟩:∃Wc,Wc=((w4.alloc (.cells #[.pointer (some ⟨B,0,none⟩)] 43)).alloc (.cells #[.bool false] 4)).alloc (.cells #[.string ⟨#[109]⟩,.string (bs pk)] 9):=⟨_,rfl⟩;have b0:Below w.heap.size w Wc:=by rw [ae];exact pbx
 have bw:Blk Wc w4.heap.size #[.pointer (some ⟨B,0,none⟩)] 43:=by rw [ae];exact bkx
 have b6:Blk Wc (w4.heap.size+1) #[.bool false] 4:=by rw [ae];exact bkx
 have bz:Blk Wc (w4.heap.size+1+1) #[.string ⟨#[109]⟩,.string (bs pk)] 9:=by rw [ae];exact bkx
 have a6:Blk Wc w.heap.size #[.int .i64 0,.int .u32 0,.string ⟨#[]⟩] 78:=by rw [ae];exact((bp.alloc _).alloc _).alloc _
 have a2:Blk Wc (w.heap.size+1) #[.int .i64 n.id,.int .u32 c,.string (bs d)] 78:=by rw [ae];exact((b2.alloc _).alloc _).alloc _
 have b9:=a5.size;go_wp2_with fail
 rw [← ae];clear ae;refine(az.out Wc b0 w4.heap.size (w4.heap.size+1) _ b9 (by omega) bw b6 bz).mono ?_;rintro e w6⟨rfl,ca,b1,bt,ab⟩;have aj:=a6.kept (ab _ (N0 _) a6.lt).1;have a4:=a2.kept (ab _ (by omega) a2.lt).1;have aq:=(ab _ (N0 _) a6.lt).2;have a0:=(ab _ (by omega) a2.lt).2;have ch:=aj.cell;have cd:=aj.frozen;have cp:=aj.lt;have rr:=(((aj.set (o:=0) (.int .i64 0)).set (o:=1) (.int .u32 0)).set (o:=2) (.string ⟨#[]⟩)).cell;go_wp2;exact bodyPost_ret (v:=.tuple #[.agg #[.int .i64 0,.int .u32 0,.string ⟨#[]⟩],.int .i64 ek]) (by simp [results,Tryz.results46,go_sem,rr]) rfl (Vl (((b1.setNew ⟨w.heap.size,0,none⟩ _ (N0 _)).setNew ⟨w.heap.size,1,none⟩ _ (N0 _)).setNew ⟨w.heap.size,2,none⟩ _ (N0 _)) (ql ht bt aq _ _ _) ek)
theorem zgH {L:zQ}{k:Nat}(h:xf L k)(e:jz)(f:Bool):(j8 L e f).2.1.length<=128*(k+1):=by
 have h1:=h.len;have h2:=zco h.fold e;unfold j8
 split
 ·simp
 refine Nat.le_trans (zcn _) ?_
 unfold qQ;simp only [(qj L _ f).1,N1];omega
def qZ(B:Nat)(t:List Nat)(ow:Own)(w:World)(R:zq×List zx)(e:Ending)(w':World):Prop:=
 ∃v ow',e=.returned v/\zp t ow w ow' w'/\jH B R.1 t ow' w'/\Row w' 78 3 v R.2.length (R.2.flatMap zh)/\(∀g,v.ownBlock=some g->w.heap.size<=g/\ow' g=[])
theorem zgI {px sb lb pb:Nat}{av:Value}(a:Addr)(B:Nat)(n:zq)(t:List Nat)(ht:t≠ [])(ow:Own)(e:jz)(mv:Value)(w:World)(hN:zw B px sb lb pb av n t ow w)(he:jv w a)(hge:ow 2=[])
 (hm:qO w mv e.msgs) (hmt:∀a l c,mv=.slice (some a) l c->ow a.block=[]) (hm2:e.msgs.length<=1073741824) {k:Nat} (hb:xf n.loc k) (hk:k<=10000) (hacc:n.acc.length<=200000):
 Calls prog 162 #[.pointer (some ⟨B,0,none⟩),ZS e mv] w (qZ B t ow w (vW n e)):=by
 have hf:=hb.fold;have c7:=hb.len;have cp:=hf.eras;have am:=za6 hb e false;have ca:=zgH hb e false;have c3:=zco hf e;have c9:=(zd0 hf e).eras;have b5:e.ver=e.ver:=rfl;have cm:=he.lt;have bq:Below w.heap.size w (w.alloc (.cells #[.int .i64 e.kind,.int .u32 e.epoch,.int .i64 e.ver,mv] 241)):=pbx;have bo:=(zw.loc B px sb lb pb av n t).cut hN bq;have kA:Blk (w.alloc (.cells #[.int .i64 e.kind,.int .u32 e.epoch,.int .i64 e.ver,mv] 241)) w.heap.size #[.int .i64 e.kind,.int .u32 e.epoch,.int .i64 e.ver,mv] 241:=Blk.new (by simp);have bz:qO (w.alloc (.cells #[.int .i64 e.kind,.int .u32 e.epoch,.int .i64 e.ver,mv] 241)) mv e.msgs:=Src.below hm bq
 have a9:∀a l c,mv=.slice (some a) l c->(ow.cut w) a.block=[]:=λa l c hv=>by
  rcases Nat.lt_or_ge a.block w.heap.size with h|h
  ·rw [Own.cut_old h];exact hmt a l c hv
  exact Own.cut_new h
 have cg:jv (w.alloc (.cells #[.int .i64 e.kind,.int .u32 e.epoch,.int .i64 e.ver,mv] 241)) a:=he.below bq cm;have cx:(ow.cut w) 2=[]:=by rw [Own.cut_old cm];exact hge
 have a2:=λ(ow2:Own)(w2:World)(h:zp t (ow.cut w) (w.alloc (.cells #[.int .i64 e.kind,.int .u32 e.epoch,.int .i64 e.ver,mv] 241)) ow2 w2)=>zp.wrap bq h
 have bg:(ow.cut w) w.heap.size=[]:=Own.cut_new (N0 _);have bd:∃W0,W0=w.alloc (.cells #[.int .i64 e.kind,.int .u32 e.epoch,.int .i64 e.ver,mv] 241):=⟨_,rfl⟩;obtain⟨W0,bd⟩:=bd
 have aq:∀v ow2 w2 m ms,zp t (ow.cut w) W0 ow2 w2->jH B m t ow2 w2->Row w2 78 3 v ms.length (ms.flatMap zh)->(∀g,v.ownBlock=some g->w.heap.size<=g/\ow2 g=[])->qZ B t ow w (m,ms) (.returned v) w2:=
  λv ow2 w2 m ms h1 h2 h3 h4=>⟨v,ow2,rfl,a2 ow2 w2 (by rw [bd] at h1;exact h1),h2,h3,h4⟩
 have c4:w.heap.size<W0.heap.size:=by rw [bd];simp
 rw [← bd] at bo kA bz cg;have a4:vW n e=(jR (n.acc.length+1) {n with loc:=(j8 n.loc e (n.bad.contains (qi n e))).1,wanted:=if vo (j8 n.loc e (n.bad.contains (qi n e))).1.fold.eras=vo n.loc.fold.eras then n.wanted else 0,pool:=JQ (JQ n.pool (j8 n.loc e (n.bad.contains (qi n e))).2.1) (j8 n.loc e (n.bad.contains (qi n e))).1.held},(j8 n.loc e (n.bad.contains (qi n e))).2.1):=rfl;have co:n.bad.contains (qi n e)=false:=by rw [hN.bad];rfl
 rw [co] at a4;clear co;have a8:=λW h1 h2 h3=>zfX a lb n.loc (t++ [2]) (by simp) (ow.cut w) e mv false W h1 cx h2 h3 (λa l c hv=>by rw [a9 a l c hv];exact zj (by simp)) (by have:=hf.few;omega) (by omega) hm2 ⟨hf.low,by have:=hf.high;omega⟩ (by omega) (by omega)
 have au:=λow' W h=>V4 lb n.loc (t++ [2]) ow' W h (by omega)
 have bp:=λW h=>ziG (px:=px) (sb:=sb) (lb:=lb) (pb:=pb) (av:=av) B n t (ow.cut w) e mv W h (by omega)
 obtain⟨⟨L',ms,er⟩,hR⟩:∃R,j8 n.loc e false=R:=⟨_,rfl⟩;rw [hR] at a8 a4 am ca;unfold Q3 at a8;simp only at a8 a4 am ca;have ah:=λow' W h=>V4 lb L' (t++ [2]) ow' W h (by have:=am.fold.eras;omega)
 have ap:=λow' W h=>zfS lb L' (t++ [2]) ow' W h (by have:=am.len;omega)
 have c5:L'.held.length<=1073741824:=by have:=am.len;omega
 obtain⟨⟨p1,p2,p3⟩,hP⟩:∃x,vo n.loc.fold.eras=x:=⟨_,rfl⟩;obtain⟨⟨q1,q2,q3⟩,hQ⟩:∃x,vo L'.fold.eras=x:=⟨_,rfl⟩;rw [hP] at au a4;rw [hQ] at ah a4;have aw:=λW=>zlf (q1,q2,q3) (p1,p2,p3) W
 unfold Yh at au ah;unfold ZS at a8 bp⊢;unfold Yh at aw;simp only at au ah aw;have ao:=λ(M:zq)(ow':Own) W v (hpl:jY pb n.pool (t++ [3]) ow' W) (h2:Src W v 3 ms.length (ms.flatMap zh)) h3=>zah pb n.pool (t++ [3]) ow' v ms W hpl h2 (by omega) h3
 have ak:=λ(ow':Own) W v h1 h2 h3=>zah pb (JQ n.pool ms) (t++ [3]) ow' v L'.held W h1 h2 (by omega) h3
 rw [a4];have a7:Below W0.heap.size W0 W0:=N2 _ _;replace a4:=hid a4;replace a8:=hid a8;replace au:=hid au;replace ah:=hid ah;replace ap:=hid ap;replace bp:=hid bp;replace hR:=hid hR;replace hP:=hid hP;replace hQ:=hid hQ;replace ao:=hid ao;replace ak:=hid ak;replace aq:=hid aq;replace a9:=hid a9;clear a2 am ca b5 a7;have a1:=hN.blk;unfold zD at a1;have cw:=a1.cell;have lw:=a1.lt;have hB:=bo.blk;unfold zD at hB;clear hN a1
 go_enter func162,ntmps162
 go_wp2_with fail
 rw [← bd];clear bd cw lw;refine(au.out _ _ bo.lo).mono ?_;rintro r w1⟨rfl,cs⟩;have cq:Below W0.heap.size W0 (w1.alloc (.cells #[.int .u32 p1,.int .i64 p2,.int .i64 p3] 197)):=pbx;have kE:Blk (w1.alloc (.cells #[.int .u32 p1,.int .i64 p2,.int .i64 p3] 197)) w1.heap.size #[.int .u32 p1,.int .i64 p2,.int .i64 p3] 197:=Blk.new (by simp);have c6:=cs.size;obtain⟨W1,b3⟩:∃W1,W1=w1.alloc (.cells #[.int .u32 p1,.int .i64 p2,.int .i64 p3] 197):=⟨_,rfl⟩;have c8:w1.heap.size<W1.heap.size:=by rw [b3];simp
 have bk:(ow.cut w) w1.heap.size=[]:=Own.cut_new (by omega);go_wp2_with fail
 rw [← b3] at cq kE⊢;clear b3;have a0:Below W0.heap.size W0 W1.drew:=zm cq;have cd:=(zw.loc B px sb lb pb av n t).below bo a0;have bv:=kA.call a0;have cf:Blk W1.drew w1.heap.size #[.int .u32 p1,.int .i64 p2,.int .i64 p3] 197:=kE.drew;have b2:=cg.below a0 (by omega);have b1:=Src.below bz a0;have b7:Blk W1.drew B #[.pointer (some ⟨px,0,none⟩),.int .i64 n.id,.int .i64 n.version,.slice none 0 0,.pointer (some ⟨sb,0,none⟩),.pointer (some ⟨lb,0,none⟩),.pointer (some ⟨pb,0,none⟩),av,.int .i64 (n.offered:Nat),.int .i64 (n.applied:Nat),.int .i64 n.wanted,.bool n.down] 98:=cd.blk;clear kA kE cg bz hB;refine zd [O 0,O 1,O 2,O 3,O 4,O 5,O 6,O 7,O 8,O 9,O 10,E 11,E 12,E 13,O 14,O 15,O 16,O 17,O 18] none (λw'=>Blk w' B #[.pointer (some ⟨px,0,none⟩),.int .i64 n.id,.int .i64 n.version,.slice none 0 0,.pointer (some ⟨sb,0,none⟩),.pointer (some ⟨lb,0,none⟩),.pointer (some ⟨pb,0,none⟩),av,.int .i64 (n.offered:Nat),.int .i64 (n.applied:Nat),.int .i64 n.wanted,.bool n.down] 98/\Blk w' w.heap.size #[.int .i64 e.kind,.int .u32 e.epoch,.int .i64 e.ver,mv] 241/\True) (by kernel_rfl) (by kernel_rfl) ⟨b7,bv,trivial⟩ ?_
 refine Wb ?_
 refine zc rfl (λK hK=>?_);go_wp2_with fail
 refine(bp.out _ cd).mono ?_;rintro r w2⟨rfl,am⟩;have b9:=b7.call am;have bl:=bv.call am;go_wp2;refine hK.out _ _ (λ_=>⟨b9,bl,trivial⟩) ?_;clear hK K;refine zc rfl (λK hK=>?_);go_wp2_with fail
 refine(Tryz.slices_Contains_int_empty none 0 _ _).mono ?_;rintro r w3⟨rfl,cr⟩;obtain rfl:=cr.symm;go_wp2;refine hK.out _ _ (λ_=>⟨b9,bl,trivial⟩) ?_;clear hK K;have cc:=(zw.loc B px sb lb pb av n t).below cd am;refine zc rfl (λK hK=>?_);go_wp2_with fail
 refine(a8.out _ (b2.below am (by have:=a0.size;omega)) cc.lo (Src.below b1 am)).mono ?_;rintro r w4⟨v,ck,rfl,bh,cz,a3,aa⟩;have cb:=cc.setLocal L' bh cz;have bj:=cc.blkS bh;unfold zD at bj;have c1:w.heap.size<w2.heap.size:=bl.lt;have cl:=bl.kept (bh.block c1 (by rw [bg];exact zj (by simp)));have b4:=(cf.call am).kept (bh.block (cf.call am).lt (by rw [bk];exact zj (by simp)));have bm:zp t (ow.cut w) W0 ck w4:=(zp.of_below t _ (a0.trans (am.mono a0.size))).trans (bh.mono (Sub.child t 2));go_wp2;refine hK.out _ _ (λ_=>⟨bj,cl,trivial⟩) ?_;clear hK K
 refine Wb ?_
 refine zg ?_;clear b7 b9 bv bl cl;go_wp2_with fail
 refine zd [O 0,O 1,O 2,O 3,O 5,E 4,O 6] none (λw'=>Blk w' B #[.pointer (some ⟨px,0,none⟩),.int .i64 n.id,.int .i64 n.version,.slice none 0 0,.pointer (some ⟨sb,0,none⟩),.pointer (some ⟨lb,0,none⟩),.pointer (some ⟨pb,0,none⟩),av,.int .i64 (n.offered:Nat),.int .i64 (n.applied:Nat),.int .i64 n.wanted,.bool n.down] 98/\Blk w' w1.heap.size #[.int .u32 p1,.int .i64 p2,.int .i64 p3] 197/\True) (by kernel_rfl) (by kernel_rfl) ⟨bj.drew,b4.drew,trivial⟩ ?_
 refine Wb ?_
 refine zc rfl (λK hK=>?_);go_wp2_with fail
 refine(ah.out _ _ ((zL.loc lb L' (t++ [2])).below cb.lo (zm (N2 _ _)))).mono ?_;rintro r w5⟨rfl,cy⟩;have al:Below w4.heap.size w4 w5:=ze (zm (N2 _ _)) cy;have ax:=bj.call al;have cj:=b4.call al;go_wp2;refine hK.out _ _ (λ_=>⟨ax,cj,trivial⟩) ?_;clear hK K bj b4 cj cf
 by_cases hq:(q1,q2,q3)=(p1,p2,p3)
 ·have hd:=λW=>(aw W).trans (by rw [show decide ((q1,q2,q3)≠(p1,p2,p3))=false by simp [hq]])
  clear aw
  refine Wb ?_
  refine zg ?_;have a6:=(zw.loc B px sb lb pb av _ t).below cb al;have bc:zp t (ow.cut w) W0 ck w5:=bm.trans (zp.of_below t _ al);have af:=a3.below al;replace hq:=hid hq;have b6:=ax.cell;have ce:=ax.lt;go_wp2_with fail
  refine(ao.out n _ _ v a6.pool af.src (λa l c hv=>by subst hv;rw [(aa _ rfl).2];exact zj (by simp))).mono ?_;rintro r w6⟨vd,rfl,az,b0⟩;have bi:=a6.setPool _ az b0;have bb:=a6.blkS az;unfold zD at bb;have ab:=af.step az (λg hg=>by rw [(aa g hg).2];exact zj (by simp));clear b6 ce;go_wp2_with fail
  refine zd [O 0,O 1,O 2,O 3,O 4,O 5,O 6,O 7,E 8,E 9] none (λw'=>Blk w' B #[.pointer (some ⟨px,0,none⟩),.int .i64 n.id,.int .i64 n.version,.slice none 0 0,.pointer (some ⟨sb,0,none⟩),.pointer (some ⟨lb,0,none⟩),.pointer (some ⟨pb,0,none⟩),av,.int .i64 (n.offered:Nat),.int .i64 (n.applied:Nat),.int .i64 n.wanted,.bool n.down] 98/\True) (by kernel_rfl) (by kernel_rfl) ⟨bb.drew,trivial⟩ ?_
  refine Wt ?_
  refine zc rfl (λK hK=>?_);go_wp2_with fail
  refine(ap.out _ _ ((zL.loc lb L' (t++ [2])).below bi.lo (zm (N2 _ _)))).mono ?_;rintro r w7⟨vh,rfl,an,br,ac⟩;have ai:Below w6.heap.size w6 w7:=ze (zm (N2 _ _)) br;have bt:=bb.call ai;go_wp2;refine hK.out _ _ (λ_=>⟨bt,trivial⟩) ?_;clear hK K;refine zc rfl (λK hK=>?_);have be:=(zw.loc B px sb lb pb av _ t).cut bi ai;go_wp2_with fail
  refine(ak.out _ _ vh be.pool an.src (λa l c hv=>by subst hv;rw [Own.cut_new (w:=w6) (ac _ rfl)];exact zj (by simp))).mono ?_;rintro r w8⟨cu,rfl,ay,bw⟩;have b8:=be.setPool _ ay bw;have bn:=be.blkS ay;unfold zD at bn;have ag:=(ab.below ai).step ay (λg hg=>by rw [Own.cut_old (ab.lt hg),(aa g hg).2];exact zj (by simp));have ba:zp t (ow.cut w) W0 _ w8:=bc.trans ((az.mono (Sub.child t 3)).trans (zp.wrap ai (ay.mono (Sub.child t 3))));go_wp2;refine hK.out _ _ (λ_=>⟨bn,trivial⟩) ?_;clear hK K;refine zg ?_;go_wp2_with fail
  refine(Vk B _ t _ _ ⟨_,_,_,_,_,b8⟩ (by show n.acc.length<=_;omega)).mono ?_;rintro r w9⟨rfl,bu,bf,ch⟩;have ad:=ag.step bf (λg hg=>by rw [Own.cut_old (ab.lt hg),(aa g hg).2];exact zj ht);have ae:∀g,v.ownBlock=some g->w.heap.size<=g/\bu g=[]:=λg hg=>⟨by have:=(aa g hg).1;have:=am.size;have:=a0.size;omega,by rw [bf.agree g (ag.lt hg),Own.cut_old (ab.lt hg)];exact(aa g hg).2⟩
  replace ad:=hid ad;replace ae:=hid ae;replace aa:=hid aa;replace ac:=hid ac;clear ag an ab af;go_wp2;go_ret
  first|rw [if_pos hq.out] |rw [if_neg hq.out] |skip
  exact aq.out _ _ _ _ _ (ba.trans bf) ch ad.out ae.out
 have hd:=λW=>(aw W).trans (by rw [show decide ((q1,q2,q3)≠(p1,p2,p3))=true from decide_eq_true hq])
 clear aw
 refine Wt ?_
 refine zg ?_;have ci:=(zw.loc B px sb lb pb av _ t).below cb al;have c0:=ax.cell;have ct:=ax.lt;have c2:=ax.frozen;have cv:Mod (λk=>k=B) w5 (w5.setCell ⟨B,10,none⟩ (.int .i64 0)):=(Mod.refl (λk=>k=B) w5).thenSet (p:=⟨B,10,none⟩) rfl _;have ar:=ci.setOwn {n with loc:=L',wanted:=0} cv (ax.set (o:=10) (.int .i64 0)) rfl rfl rfl rfl rfl rfl;have aj:=(a3.below al).step ar.1 (λg hg=>by rw [(aa g hg).2];exact zj ht);have a5:=(bm.trans (zp.of_below t _ al)).trans ar.1;replace ar:=hid ar;replace aj:=hid aj;replace hq:=hid hq;go_wp2_with fail
 obtain⟨W5,cn⟩:∃W5,W5=w5.setCell ⟨B,10,none⟩ (.int .i64 0):=⟨_,rfl⟩;rw [← cn] at ar a5 aj⊢;clear cn ax c0 ct c2;have bc:=a5;have af:=aj.out;have a6:=ar.out.2;have ax:=a6.blk;unfold zD at ax;have b6:=ax.cell;have ce:=ax.lt;go_wp2_with fail
 refine(ao.out n _ _ v a6.pool af.src (λa l c hv=>by subst hv;rw [(aa _ rfl).2];exact zj (by simp))).mono ?_;rintro r w6⟨vd,rfl,az,b0⟩;have bi:=a6.setPool _ az b0;have bb:=a6.blkS az;unfold zD at bb;have ab:=af.step az (λg hg=>by rw [(aa g hg).2];exact zj (by simp));clear b6 ce;go_wp2_with fail
 refine zd [O 0,O 1,O 2,O 3,O 4,O 5,O 6,O 7,E 8,E 9] none (λw'=>Blk w' B #[.pointer (some ⟨px,0,none⟩),.int .i64 n.id,.int .i64 n.version,.slice none 0 0,.pointer (some ⟨sb,0,none⟩),.pointer (some ⟨lb,0,none⟩),.pointer (some ⟨pb,0,none⟩),av,.int .i64 (n.offered:Nat),.int .i64 (n.applied:Nat),.int .i64 (0:Int),.bool n.down] 98/\True) (by kernel_rfl) (by kernel_rfl) ⟨bb.drew,trivial⟩ ?_
 refine Wt ?_
 refine zc rfl (λK hK=>?_);go_wp2_with fail
 refine(ap.out _ _ ((zL.loc lb L' (t++ [2])).below bi.lo (zm (N2 _ _)))).mono ?_;rintro r w7⟨vh,rfl,an,br,ac⟩;have ai:Below w6.heap.size w6 w7:=ze (zm (N2 _ _)) br;have bt:=bb.call ai;go_wp2;refine hK.out _ _ (λ_=>⟨bt,trivial⟩) ?_;clear hK K;refine zc rfl (λK hK=>?_);have be:=(zw.loc B px sb lb pb av _ t).cut bi ai;go_wp2_with fail
 refine(ak.out _ _ vh be.pool an.src (λa l c hv=>by subst hv;rw [Own.cut_new (w:=w6) (ac _ rfl)];exact zj (by simp))).mono ?_;rintro r w8⟨cu,rfl,ay,bw⟩;have b8:=be.setPool _ ay bw;have bn:=be.blkS ay;unfold zD at bn;have ag:=(ab.below ai).step ay (λg hg=>by rw [Own.cut_old (ab.lt hg),(aa g hg).2];exact zj (by simp));have ba:zp t (ow.cut w) W0 _ w8:=bc.trans ((az.mono (Sub.child t 3)).trans (zp.wrap ai (ay.mono (Sub.child t 3))));go_wp2;refine hK.out _ _ (λ_=>⟨bn,trivial⟩) ?_;clear hK K;refine zg ?_;go_wp2_with fail
 refine(Vk B _ t _ _ ⟨_,_,_,_,_,b8⟩ (by show n.acc.length<=_;omega)).mono ?_;rintro r w9⟨rfl,bu,bf,ch⟩;have ad:=ag.step bf (λg hg=>by rw [Own.cut_old (ab.lt hg),(aa g hg).2];exact zj ht);have ae:∀g,v.ownBlock=some g->w.heap.size<=g/\bu g=[]:=λg hg=>⟨by have:=(aa g hg).1;have:=am.size;have:=a0.size;omega,by rw [bf.agree g (ag.lt hg),Own.cut_old (ab.lt hg)];exact(aa g hg).2⟩
 replace ad:=hid ad;replace ae:=hid ae;replace aa:=hid aa;replace ac:=hid ac;clear ag an ab af;go_wp2;go_ret
 first|rw [if_pos hq.out] |rw [if_neg hq.out] |skip
 exact aq.out _ _ _ _ _ (ba.trans bf) ch ad.out ae.out
