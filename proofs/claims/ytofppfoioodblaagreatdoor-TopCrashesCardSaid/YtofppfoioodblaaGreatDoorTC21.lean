/- PARTS OF THE PROOF. -/
import Derived.Test.YtofppfoioodblaaGreatDoorTC20
set_option maxRecDepth 8000
set_option maxHeartbeats 4000000
open Go.Proofs.Tryz
namespace Go.Proofs.YtofppfoioodblaaGreatDoor
open Go Go.RowKit Go.Shelf Go.Extern.Stop Go.Stop Go.Extern
attribute [local go_sem] Oper.semAt_some zB zp
def Yz(B:Nat)(R:zr×Int)(t:List Nat)(ow:Own)(w W:World)(e:Ending)(w':World):Prop:=
 e=.returned (.int .i64 R.2)/\∃ow',zt t ow w ow' w'/\jF B R.1 t ow' w'/\∀k,w.heap.size<=k->k<W.heap.size->w'.heap[k]?=W.heap[k]?/\ow' k=[]
theorem YA(B:Nat)(n:zr)(t:List Nat)(ht:t≠ [])(ow:Own)(w:World)(h:jF B n t ow w)(hcap:vP n.store)(b:Bool)(ts:List (List UInt8))(h0:0<ts.length)(hn:ts.length<=1000)(hl:ts.flatten.length<=1073741000)
 (W:World) (hb:Below w.heap.size w W) (kb kc g:Nat) (h1:w.heap.size<=kb) (h2:w.heap.size<=kc) (k0:Blk W kb #[.pointer (some ⟨B,0,none⟩)] 43) (k1:Blk W kc #[.bool b] 4) (kg:Blk W g (yR ts).toArray 9):
 Calls prog 136 #[.slice (some ⟨g,0,none⟩) ts.length ts.length,.pointer (some ⟨kb,0,none⟩),.pointer (some ⟨kc,0,none⟩)] W (Yz B (j7 n b ts.flatten) t ow w W):=by
 have aa:Src W (.slice (some ⟨g,0,none⟩) ts.length ts.length) 1 ts.length (yR ts):=by
  have:=jP (n:=ts.length) (size:=1) (cap:=ts.length) kg (by simp [yR]) (N0 _)
  simpa using this
 refine(zkv B n t (ow.cut w) b kb kc _ ts W ((jF.loc B n t).cut h hb) hcap k0 k1 (Own.cut_new h1) (Own.cut_new h2) aa h0 hn hl).mono ?_;rintro e w'⟨rfl,ow',hs,hN⟩;exact⟨rfl,ow',zt.wrap hb hs,hN,λk a b=>hs.free ht a b⟩
theorem zcp {p:xH}{i:Int}{b:Nat}(h:(zD p i b).2.2.2≠0):(zD p i b).1=p:=by
 unfold zD at*
 split at h
 ·rename_i h0;rw [if_pos h0]
 rename_i h0;rw [if_neg h0]
 split at h
 ·rename_i h1;rw [if_pos h1]
 simp at h
theorem ziJ {p:xH}{i:Int}{b:Nat}{x:List UInt8}(h:(vO p i b x).2.2≠0):(vO p i b x).1=p:=by
 unfold vO at*
 split at h
 ·rename_i h0;rw [if_pos h0]
 rename_i h0;rw [if_neg h0]
 split at h
 ·rename_i h1;rw [if_pos h1]
 simp at h
theorem ziK(p:xH)(i:Int)(b:Nat)(x:List UInt8):(vO p i b x).2.1.length<=13+x.length:=by
 unfold vO
 split
 ·simp
 split
 ·simp
 simp [xO,le8,jd];omega
theorem zcq(p:xH)(i:Int)(b:Nat):(zD p i b).2.2.1.length<=13:=by
 unfold zD
 split
 ·simp
 split
 ·simp
 simp [xO,le8,jd]
theorem ziL {px sb lb pb:Nat}{av:Value}(B:Nat)(n:zr)(t:List Nat)(ht:t≠ [])(ow:Own)(i:Int)(b:Nat)(hb:b<18446744073709551616)(x:List UInt8)(hx:x.length<=1000000)(w:World)(hN:zy B px sb lb pb av n t ow w)(hcap:vP n.store):
 Calls prog 201 #[.pointer (some ⟨B,0,none⟩),.int .i64 i,.int .u64 b,.string (bs x)] w (vu B (yS n i b x).1 t ow w (.int .i64 (yS n i b x).2)):=by
 have hB:=hN.blk;have hr:=vw w hB;have aa:=λW hW=>zgt px n.pax (t++ [0]) (by simp) ow i b hb x hx W hW
 have ac:yS n i b x=if n.down then(n,170)else if(vO n.pax i b x).2.2≠0 then(n,(vO n.pax i b x).2.2)else j7 {n with pax:=(vO n.pax i b x).1} true (vO n.pax i b x).2.1:=rfl
 have ai:=ziK n.pax i b x;have ad:= @ziJ n.pax i b x;unfold zz at hB;unfold ZJ at hr;have e0:=hB.cell;obtain⟨⟨p',rc,er⟩,aj⟩:∃q,vO n.pax i b x=q:=⟨_,rfl⟩;rw [aj] at aa ac ai ad;unfold VP at aa;simp only at aa ac ai ad;replace aj:=hid aj;replace aa:=hid aa;replace ad:=hid ad
 by_cases hd:n.down=true
 ·rw [if_pos hd] at ac
  rw [hd] at hr;rw [ac];replace ac:=hid ac;replace hr:=hid hr;replace hd:=hid hd
  go_enter func201,ntmps201
  go_wp2_with fail
  refine hr.out.mono ?_;rintro e w1⟨rfl,ag⟩;obtain rfl:=ag.symm;go_wp2;go_ret
  exact⟨rfl,ow,zt.refl _ _ _,_,_,_,_,_,hN⟩
 have al:n.down=false:=by simpa using hd
 rw [if_neg hd] at ac;rw [al] at hr;replace hr:=hid hr;replace hd:=hid hd;replace al:=hid al
 by_cases he:er=0
 ·subst he
  rw [if_neg (by simp)] at ac;rw [ac];have af:=λae w1 h1 W h2 kb kc g h3 h4 k0 k1 kg=>YA B {n with pax:=p'} t ht ae w1 h1 hcap true [rc] (by simp) (by simp) (by simp;omega) W h2 kb kc g h3 h4 k0 k1 kg
  rw [show [rc].flatten=rc by simp] at af;unfold Yz at af;replace ac:=hid ac
  generalize j7 {n with pax:=p'} true rc=R at*
  replace af:=hid af
  go_enter func201,ntmps201
  go_wp2_with fail
  refine hr.out.mono ?_;rintro e w1⟨rfl,ag⟩;obtain rfl:=ag.symm;go_wp2_with fail
  refine(aa.out _ hN.pax).mono ?_;rintro e w1⟨rfl,ae,ah,h1⟩;have ak:=hN.setPax p' ah h1;go_wp2_with fail
  refine(xy _ _ _).mono ?_;rintro e w2⟨rfl,rfl⟩;go_wp2_with fail
  refine(af.out ae w1 ⟨_,_,_,_,_,ak⟩ (((w1.alloc (.cells #[.pointer (some ⟨B,0,none⟩)] 43)).alloc (.cells #[.bool true] 4)).alloc (.cells #[.string (bs rc)] 9)) (pbx) w1.heap.size (w1.heap.size+1) _ (N0 _) (by omega) (bkx) (bkx) (Blk.new (by simp))).mono ?_;rintro e w3⟨rfl,ap,an,am, -⟩;go_wp2;go_ret
  exact⟨rfl,ap,(ah.mono (Sub.child t 0)).trans an,am⟩
 rw [if_pos he] at ac
 rw [ac];have t1:(er !=0)=true:=by simpa using he
 have ao:=ad.out he;subst ao;replace ac:=hid ac;replace he:=hid he
 go_enter func201,ntmps201
 go_wp2_with fail
 refine hr.out.mono ?_;rintro e w1⟨rfl,ag⟩;obtain rfl:=ag.symm;go_wp2_with fail
 refine(aa.out _ hN.pax).mono ?_;rintro e w1⟨rfl,ae,ah,h1⟩;have ak:=hN.setPax _ ah h1;go_wp2;go_ret
 exact⟨rfl,ae,ah.mono (Sub.child t 0),_,_,_,_,_,ak⟩
theorem qm {B:Nat}{n:zr}{t:List Nat}(ht:t≠ []){ow:Own}{W:World}(h:jF B n t ow W){D:Nat}(hD:ow D=[])(a b c:Value):jF B n t ow (((W.setCell ⟨D,0,none⟩ a).setCell ⟨D,1,none⟩ b).setCell ⟨D,2,none⟩ c):=
 jF.loc B n t _ _ _ _ h (by simp) (λk hk hs=>by
  have hne:k≠D:=λe=>by subst e;rw [hD] at hs;exact zj ht hs
  exact⟨rfl,(N4 _ _ _ _ hne).trans ((N4 _ _ _ _ hne).trans (N4 _ _ _ _ hne))⟩)
theorem zcr {px sb lb pb:Nat}{av:Value}(B:Nat)(n:zr)(t:List Nat)(ht:t≠ [])(ow:Own)(i:Int)(b:Nat)(hb:b<18446744073709551616)(w:World)(hN:zy B px sb lb pb av n t ow w)(hcap:vP n.store):
 Calls prog 202 #[.pointer (some ⟨B,0,none⟩),.int .i64 i,.int .u64 b] w (vu B (zC n i b).1 t ow w (zaX (zC n i b).2)):=by
 have hB:=hN.blk;have hr:=λW hW=>vw (B:=B) (px:=px) (sb:=sb) (lb:=lb) (pb:=pb) (av:=av) (n:=n) W hW
 have ac:=λW hW=>zaY px n.pax (t++ [0]) (by simp) (ow.cut w) i b hb W hW
 have ad:zC n i b=if n.down then(n,(0,0,[]),170)
  else if(zD n.pax i b).2.2.2≠0 then(n,(0,0,[]),(zD n.pax i b).2.2.2)
  else if(j7 {n with pax:=(zD n.pax i b).1} true (zD n.pax i b).2.2.1).2≠0 then((j7 {n with pax:=(zD n.pax i b).1} true (zD n.pax i b).2.2.1).1,(0,0,[]),(j7 {n with pax:=(zD n.pax i b).1} true (zD n.pax i b).2.2.1).2)
  else((j7 {n with pax:=(zD n.pax i b).1} true (zD n.pax i b).2.2.1).1,(zD n.pax i b).2.1,0):=rfl
 have az:=zcq n.pax i b;have aj:= @zcp n.pax i b;unfold zz at hB;have e0:=hB.cell;have l0:=hB.lt;obtain⟨⟨p',⟨v1,v2,v3⟩,rc,er⟩,a0⟩:∃q,zD n.pax i b=q:=⟨_,rfl⟩;rw [a0] at ac ad az aj;unfold ziD at ac;unfold zaX y6 at*;simp only at ac ad az aj;have an:=(zy.loc B px sb lb pb av n t).cut hN ((N2 w.heap.size w).alloc (N0 _) (.cells #[.int .u64 0,.int .u64 0,.string ⟨#[]⟩] 317));replace a0:=hid a0;replace ac:=hid ac;replace aj:=hid aj;have ah:=hr _ an.blk;unfold ZJ at ah;clear hr
 by_cases hd:n.down=true
 ·rw [if_pos hd] at ad
  rw [hd] at ah;rw [ad];replace ad:=hid ad;replace ah:=hid ah;replace hd:=hid hd
  go_enter func202,ntmps202
  go_wp2_with fail
  refine ah.out.mono ?_;rintro e w1⟨rfl,ap⟩;obtain rfl:=ap.symm;go_wp2;exact bodyPost_ret (v:=.tuple #[.agg #[.int .u64 0,.int .u64 0,.string ⟨#[]⟩],.int .i64 170]) (by simp [results,Tryz.results202,go_sem]) rfl ⟨rfl,ow,zt.of_below t ow (pbx),_,_,_,_,_,(zy.loc B px sb lb pb av n t).below hN (pbx)⟩
 have a1:n.down=false:=by simpa using hd
 rw [if_neg hd] at ad;rw [a1] at ah;replace ah:=hid ah;replace hd:=hid hd;replace a1:=hid a1
 by_cases he:er=0
 ·subst he
  rw [if_neg (by simp)] at ad;have am:=λak w1 h1 W h2 kb kc g h3 h4 k0 k1 kg=>YA B {n with pax:=p'} t ht ak w1 h1 hcap true [rc] (by simp) (by simp) (by simp;omega) W h2 kb kc g h3 h4 k0 k1 kg
  rw [show [rc].flatten=rc by simp] at am;unfold Yz at am;obtain⟨⟨m,ek⟩,hm⟩:∃R,j7 {n with pax:=p'} true rc=R:=⟨_,rfl⟩;rw [hm] at am ad;simp only at am ad;replace am:=hid am;replace hm:=hid hm
  by_cases hek:ek=0
  ·subst hek
   rw [if_neg (by simp)] at ad;rw [ad];have t2:((0:Int) !=0)=false:=rfl;replace ad:=hid ad
   go_enter func202,ntmps202
   go_wp2_with fail
   refine ah.out.mono ?_;rintro e w1⟨rfl,ap⟩;obtain rfl:=ap.symm;go_wp2_with fail
   refine(ac.out _ an.pax).mono ?_;rintro e w1⟨rfl,ak,ag,h1⟩;have ax:=an.setPax _ ag h1;have k6:=(Blk.new (w:=w) (cs:=#[.int .u64 0,.int .u64 0,.string ⟨#[]⟩]) (t:=317) rfl).kept (ag.free (by simp) (N0 _) (by simp)).1;have aq:=(ag.free (by simp) (N0 _) (by simp)).2;have aa:zt t ow w ak w1:=zt.wrap (w:=w) ((N2 w.heap.size w).alloc (N0 _) (.cells #[.int .u64 0,.int .u64 0,.string ⟨#[]⟩] 317)) (ag.mono (Sub.child t 0));have ba:=aa.size;have l6:=k6.lt;go_wp2_with fail
   refine(xy _ _ _).mono ?_;rintro e w2⟨rfl,rfl⟩;obtain⟨Wc,ae⟩:∃Wc,Wc=(((w1.alloc (.cells #[.int .u64 v1,.int .u64 v2,.string (bs v3)] 317)).alloc (.cells #[.pointer (some ⟨B,0,none⟩)] 43)).alloc (.cells #[.bool true] 4)).alloc (.cells #[.string (bs rc)] 9):=⟨_,rfl⟩;have ay:Below w1.heap.size w1 Wc:=by rw [ae];exact pbx
   have kv:Blk Wc w1.heap.size #[.int .u64 v1,.int .u64 v2,.string (bs v3)] 317:=by rw [ae];exact bkx
   have a6:Blk Wc (w1.heap.size+1) #[.pointer (some ⟨B,0,none⟩)] 43:=by rw [ae];exact bkx
   have a5:Blk Wc (w1.heap.size+1+1) #[.bool true] 4:=by rw [ae];exact bkx
   have a3:Blk Wc (w1.heap.size+1+1+1) #[.string (bs rc)] 9:=by rw [ae];exact bkx
   go_wp2_with fail
   rw [← ae];clear ae;refine(am.out ak w1 ⟨_,_,_,_,_,ax⟩ Wc ay (w1.heap.size+1) (w1.heap.size+1+1) _ (by omega) (by omega) a6 a5 a3).mono ?_;rintro e w3⟨rfl,ar,au,a4,ai⟩;have a2:=kv.lt;have aw:=kv.kept (ai _ (N0 _) a2).1;have bc:=k6.kept (ay.block _ l6);have al:Blk w3 w.heap.size #[.int .u64 0,.int .u64 0,.string ⟨#[]⟩] 317:=k6.kept (au.block l6 (by rw [aq];exact zj ht));have ao:ar w.heap.size=[]:=(au.agree _ l6).trans aq;have af:zt t ow w ar w3:=aa.trans au;have a9:=aw.cell;have a7:=aw.lt;have be:=al.cell;have bb:=al.frozen;have bd:=al.lt;have rr:=(((al.set (o:=0) (.int .u64 v1)).set (o:=1) (.int .u64 v2)).set (o:=2) (.string (bs v3))).cell;go_wp2;exact bodyPost_ret (v:=.tuple #[.agg #[.int .u64 v1,.int .u64 v2,.string (bs v3)],.int .i64 0]) (by simp [results,Tryz.results202,go_sem,rr]) rfl ⟨rfl,ar,((af.setNew ⟨w.heap.size,0,none⟩ _ (N0 _)).setNew ⟨w.heap.size,1,none⟩ _ (N0 _)).setNew ⟨w.heap.size,2,none⟩ _ (N0 _),qm ht a4 ao _ _ _⟩
  rw [if_pos hek] at ad
  rw [ad];have t2:(ek !=0)=true:=by simpa using hek
  replace ad:=hid ad;replace hek:=hid hek
  go_enter func202,ntmps202
  go_wp2_with fail
  refine ah.out.mono ?_;rintro e w1⟨rfl,ap⟩;obtain rfl:=ap.symm;go_wp2_with fail
  refine(ac.out _ an.pax).mono ?_;rintro e w1⟨rfl,ak,ag,h1⟩;have ax:=an.setPax _ ag h1;have k6:=(Blk.new (w:=w) (cs:=#[.int .u64 0,.int .u64 0,.string ⟨#[]⟩]) (t:=317) rfl).kept (ag.free (by simp) (N0 _) (by simp)).1;have aq:=(ag.free (by simp) (N0 _) (by simp)).2;have aa:zt t ow w ak w1:=zt.wrap (w:=w) ((N2 w.heap.size w).alloc (N0 _) (.cells #[.int .u64 0,.int .u64 0,.string ⟨#[]⟩] 317)) (ag.mono (Sub.child t 0));have ba:=aa.size;have l6:=k6.lt;go_wp2_with fail
  refine(xy _ _ _).mono ?_;rintro e w2⟨rfl,rfl⟩;obtain⟨Wc,ae⟩:∃Wc,Wc=(((w1.alloc (.cells #[.int .u64 v1,.int .u64 v2,.string (bs v3)] 317)).alloc (.cells #[.pointer (some ⟨B,0,none⟩)] 43)).alloc (.cells #[.bool true] 4)).alloc (.cells #[.string (bs rc)] 9):=⟨_,rfl⟩;have ay:Below w1.heap.size w1 Wc:=by rw [ae];exact pbx
  have kv:Blk Wc w1.heap.size #[.int .u64 v1,.int .u64 v2,.string (bs v3)] 317:=by rw [ae];exact bkx
  have a6:Blk Wc (w1.heap.size+1) #[.pointer (some ⟨B,0,none⟩)] 43:=by rw [ae];exact bkx
  have a5:Blk Wc (w1.heap.size+1+1) #[.bool true] 4:=by rw [ae];exact bkx
  have a3:Blk Wc (w1.heap.size+1+1+1) #[.string (bs rc)] 9:=by rw [ae];exact bkx
  go_wp2_with fail
  rw [← ae];clear ae;refine(am.out ak w1 ⟨_,_,_,_,_,ax⟩ Wc ay (w1.heap.size+1) (w1.heap.size+1+1) _ (by omega) (by omega) a6 a5 a3).mono ?_;rintro e w3⟨rfl,ar,au,a4,ai⟩;have a2:=kv.lt;have aw:=kv.kept (ai _ (N0 _) a2).1;have bc:=k6.kept (ay.block _ l6);have al:Blk w3 w.heap.size #[.int .u64 0,.int .u64 0,.string ⟨#[]⟩] 317:=k6.kept (au.block l6 (by rw [aq];exact zj ht));have ao:ar w.heap.size=[]:=(au.agree _ l6).trans aq;have af:zt t ow w ar w3:=aa.trans au;have a9:=aw.cell;have a7:=aw.lt;have be:=al.cell;have bb:=al.frozen;have bd:=al.lt;have rr:=(((al.set (o:=0) (.int .u64 0)).set (o:=1) (.int .u64 0)).set (o:=2) (.string ⟨#[]⟩)).cell;go_wp2;exact bodyPost_ret (v:=.tuple #[.agg #[.int .u64 0,.int .u64 0,.string ⟨#[]⟩],.int .i64 ek]) (by simp [results,Tryz.results202,go_sem,rr]) rfl ⟨rfl,ar,((af.setNew ⟨w.heap.size,0,none⟩ _ (N0 _)).setNew ⟨w.heap.size,1,none⟩ _ (N0 _)).setNew ⟨w.heap.size,2,none⟩ _ (N0 _),qm ht a4 ao _ _ _⟩
 rw [if_pos he] at ad
 rw [ad];have t1:(er !=0)=true:=by simpa using he
 have a8:=aj.out he;subst a8;replace ad:=hid ad;replace he:=hid he
 go_enter func202,ntmps202
 go_wp2_with fail
 refine ah.out.mono ?_;rintro e w1⟨rfl,ap⟩;obtain rfl:=ap.symm;go_wp2_with fail
 refine(ac.out _ an.pax).mono ?_;rintro e w1⟨rfl,ak,ag,h1⟩;have ax:=an.setPax _ ag h1;have k6:=(Blk.new (w:=w) (cs:=#[.int .u64 0,.int .u64 0,.string ⟨#[]⟩]) (t:=317) rfl).kept (ag.free (by simp) (N0 _) (by simp)).1;have aq:=(ag.free (by simp) (N0 _) (by simp)).2;have c6:=k6.cell;have f6:=k6.frozen;have l6:=k6.lt;have rr:=((((k6.set (o:=0) (.int .u64 0)).set (o:=1) (.int .u64 0)).set (o:=2) (.string ⟨#[]⟩)).alloc (.cells #[.int .u64 v1,.int .u64 v2,.string (bs v3)] 317)).cell;have aa:zt t ow w ak w1:=zt.wrap (w:=w) ((N2 w.heap.size w).alloc (N0 _) (.cells #[.int .u64 0,.int .u64 0,.string ⟨#[]⟩] 317)) (ag.mono (Sub.child t 0));go_wp2;refine bodyPost_ret (v:=.tuple #[.agg #[.int .u64 0,.int .u64 0,.string ⟨#[]⟩],.int .i64 er]) (by simp [results,Tryz.results202,go_sem,rr]) rfl ⟨rfl,ak,?_,?_⟩
 ·exact(((aa.setNew ⟨w.heap.size,0,none⟩ _ (N0 _)).setNew ⟨w.heap.size,1,none⟩ _ (N0 _)).setNew ⟨w.heap.size,2,none⟩ _ (N0 _)).trans (zt.alloc _ _ _ _)
 exact(jF.loc B n t).below (qm ht ⟨_,_,_,_,_,ax⟩ aq _ _ _) ((N2 _ _).alloc (N0 _) _)
theorem ziM(ep:Nat)(ve st:Int)(w:World):(Instr.field 197 (.agg #[.int .u32 ep,.int .i64 ve,.int .i64 st]) 1).run prog w=.ok (.int .i64 ve) w:=by
 first|kernel_rfl|rfl|simp [go_sem]
theorem ziN {px sb lb pb:Nat}{av:Value}(B:Nat)(n:zr)(t:List Nat)(ow:Own)(v:Int)(w:World)(hN:zy B px sb lb pb av n t ow w)(hl:n.loc.fold.eras.length<=536870912):
 Calls prog 64 #[.pointer (some ⟨B,0,none⟩),.int .i64 v] w (vu B (JI n v).1 t ow w (.int .i64 (JI n v).2)):=by
 have hB:=hN.blk;have hr:=vw w hB;have ac:=λW hW=>VT lb n.loc (t++ [2]) ow W hW hl
 have aa:JI n v=if n.down then(n,170)else if ye (vC n.loc.fold.eras).2.1 v≠0 then(n,ye (vC n.loc.fold.eras).2.1 v)else({n with wanted:=v},0):=rfl
 have hw:=λm W (W':World) (h:zy B px sb lb pb av n t ow W)=>h.setOwn (W':=W') m
 unfold zz at hB hw;unfold ZJ at hr;have e0:=hB.cell;obtain⟨⟨ep,ve,st⟩,hn⟩:∃x,vC n.loc.fold.eras=x:=⟨_,rfl⟩;rw [hn] at ac aa;unfold Yg at ac;simp only at ac aa;have ak:=ziM ep ve st;replace ac:=hid ac;replace hn:=hid hn;replace hw:=hid hw
 by_cases hd:n.down=true
 ·rw [if_pos hd] at aa
  rw [hd] at hr;rw [aa];replace aa:=hid aa;replace hr:=hid hr;replace hd:=hid hd
  go_enter func64,ntmps64
  go_wp2_with fail
  refine hr.out.mono ?_;rintro e w1⟨rfl,ae⟩;obtain rfl:=ae.symm;go_wp2;go_ret
  exact⟨rfl,ow,zt.refl _ _ _,_,_,_,_,_,hN⟩
 have aj:n.down=false:=by simpa using hd
 rw [if_neg hd] at aa;rw [aj] at hr;replace hr:=hid hr;replace hd:=hid hd;replace aj:=hid aj;obtain⟨er,ai⟩:∃er,ye ve v=er:=⟨_,rfl⟩;have ad:=λW=>qc ve v W
 rw [ai] at ad aa;replace ai:=hid ai;replace ad:=hid ad
 by_cases he:er=0
 ·subst he
  rw [if_neg (by simp)] at aa;rw [aa];replace aa:=hid aa
  go_enter func64,ntmps64
  go_wp2_with fail
  refine hr.out.mono ?_;rintro e w1⟨rfl,ae⟩;obtain rfl:=ae.symm;go_wp2_with fail
  refine(ac.out _ hN.lo).mono ?_;rintro e w1⟨rfl,ah⟩;go_wp2_with fail
  refine(ad.out _).mono ?_;rintro e w2⟨rfl,ag⟩;have hb:=zh ah ag;have af:=hB.call hb;have c2:=af.cell;have f2:=af.frozen;have l2:=af.lt;go_wp2;go_ret
  have hq:=hw.out {n with wanted:=v} w2 (w2.setCell ⟨B,10,none⟩ (.int .i64 v)) ((zy.loc B px sb lb pb av n t).below hN hb) ((Mod.refl (λk=>k=B) w2).thenSet (p:=⟨B,10,none⟩) rfl _) (af.set (o:=10) _) rfl rfl rfl rfl rfl rfl;exact⟨rfl,ow,(zt.of_below t ow hb).trans hq.1,_,_,_,_,_,hq.2⟩
 rw [if_pos he] at aa
 rw [aa];have t1:(er !=0)=true:=by simpa using he
 replace aa:=hid aa;replace he:=hid he
 go_enter func64,ntmps64
 go_wp2_with fail
 refine hr.out.mono ?_;rintro e w1⟨rfl,ae⟩;obtain rfl:=ae.symm;go_wp2_with fail
 refine(ac.out _ hN.lo).mono ?_;rintro e w1⟨rfl,ah⟩;go_wp2_with fail
 refine(ad.out _).mono ?_;rintro e w2⟨rfl,ag⟩;have hb:=zh ah ag;go_wp2;go_ret
 exact⟨rfl,ow,zt.of_below t ow hb,_,_,_,_,_,(zy.loc B px sb lb pb av n t).below hN hb⟩
theorem zy.setAcc {B px sb lb pb:Nat}{av v':Value}{n:zr}{t:List Nat}{ow:Own}{W W4:World}(h:zy B px sb lb pb av n t ow W)(l:List zA)(hrow:Row W4 78 3 v' (n.acc.length+l.length) (n.acc.flatMap zg++l.flatMap zg))
 (hgr:W.grownBy W4 av.ownBlock) (hown:v'.ownBlock=av.ownBlock∨v'.ownBlock=some W.heap.size):
 zt t ow W (ow.ext W.heap.size (λk=>v'.ownBlock=some k) (t++ [4])) (W4.setCell ⟨B,7,none⟩ v')/\zy B px sb lb pb v' {n with acc:=n.acc++l} t (ow.ext W.heap.size (λk=>v'.ownBlock=some k) (t++ [4])) (W4.setCell ⟨B,7,none⟩ v'):=by
 have aa:∀g,av.ownBlock=some g->g≠B:=λg hg=>h.row.ne_blk h.blk (by decide) hg
 have ac:=h.blk.lt;have ae:=h.blk.kept (hgr.block B ac (λe=>aa B e.symm rfl))
 have ad:∀g,v'.ownBlock=some g->(av.ownBlock=some g∨g=W.heap.size):=λg hg=>by
  rw [hg] at hown
  rcases hown with h|h
  ·exact .inl h.symm
  right;simpa using h
 have hM:Mod (λk=>k=B∨av.ownBlock=some k) W (W4.setCell ⟨B,7,none⟩ v'):=(Mod.grown (X:=λk=>k=B∨av.ownBlock=some k) hgr (λk h=>.inr h)).thenSet (p:=⟨B,7,none⟩) (.inl rfl) _
 have hk:∀(i:Nat),i≠4->∀k,k<W.heap.size->Sub (t++ [i]) (ow k)->(ow.ext W.heap.size (λk=>v'.ownBlock=some k) (t++ [4])) k=ow k/\(W4.setCell ⟨B,7,none⟩ v').heap[k]?=W.heap[k]?:=λi hi k hk hs=>⟨Own.ext_old hk,hM.block k hk (λe=>by
  rcases e with e|e
  ·subst e;exact qU t i h.own hs
  exact JU t hi (h.rown k e) hs)⟩
 refine⟨⟨hM.mono (λk _ e=>?_),λk hk=>Own.ext_old hk⟩,⟨ae.set (o:=7) _,yh.loc _ _ _ _ _ _ _ h.pax hM.size (hk 0 (by decide)),jx.loc _ _ _ _ _ _ _ h.st hM.size (hk 1 (by decide)),zK.loc _ _ _ _ _ _ _ h.lo hM.size (hk 2 (by decide)),j5.loc _ _ _ _ _ _ _ h.pool hM.size (hk 3 (by decide)),?_,?_,λg hg=>?_,h.bad⟩⟩
 ·rcases e with e|e
  ·subst e;rw [h.own];exact Sub.rfl' _
  rw [h.rown k e];exact Sub.child t 4
 ·show Row _ _ 3 v' (n.acc++l).length ((n.acc++l).flatMap zg)
  rw [N1,U5];refine Row.kept (w:=W4) hrow (λg hg=>N4 _ _ _ _ (show g≠B from ?_))
  rcases ad g hg with h1|h1
  ·exact aa g h1
  omega
 ·rw [Own.ext_old ac,h.own]
 rcases ad g hg with h1|h1
 ·rw [Own.ext_old (h.row.lt h1),h.rown g h1]
 rw [Own.ext_new (by omega) hg]
def ziO(r:zA×Int):Value:=.tuple #[y7 r.1,.int .i64 r.2]
theorem XW:∀(k:Nat)(n:zr),n.acc.length<=k+n.offered->jE (k+1) n=jE k n
 |0,n,h=>by
  have hx:n.acc[n.offered]?=none:=List.getElem?_eq_none (by omega);unfold jE;simp only [hx];try rfl
 |k+1,n,h=>by
  rw [jE]
  conv=>rhs;rw [jE]
  cases hx:n.acc[n.offered]? with
  |none=>rfl
  |some m=>
   simp only
   split
   ·exact XW k _ (by show n.acc.length<=k+(n.offered+1);omega)
   rfl
theorem Y8 {B:Nat}{m:zr}{t:List Nat}{ow ow':Own}{w w':World}(hs:zt t ow w ow' w')(h:jF B m t ow' w')(er:Int):vu B m t ow w (ziO (((0,0),[]),er)) (.returned (.tuple #[.agg #[.int .i64 0,.int .u32 0,.string ⟨#[]⟩],.int .i64 er])) w':=⟨rfl,ow',hs,h⟩
theorem QB {px sb lb pb:Nat}{av:Value}(B:Nat)(n:zr)(t:List Nat)(ht:t≠ [])(ow:Own)(d:List UInt8)(hdl:d.length<=1000000)(w:World)(hN:zy B px sb lb pb av n t ow w)(hcap:vP n.store)(hal:n.acc.length<=200000):
 Calls prog 46 #[.pointer (some ⟨B,0,none⟩),.string (bs d)] w (vu B (zv n d).1 t ow w (ziO (zv n d).2)):=by
 have hB:=hN.blk
 have ad:zv n d=if n.down then(n,((0,0),[]),170)
  else if zx ((n.id,n.acc.length+1),d)=false then(n,((0,0),[]),100)
  else if(j7 n false ([109] ++(j0 [((n.id,n.acc.length+1),d)]).1)).2≠0 then((j7 n false ([109] ++(j0 [((n.id,n.acc.length+1),d)]).1)).1,((0,0),[]),(j7 n false ([109] ++(j0 [((n.id,n.acc.length+1),d)]).1)).2)
  else(jE (n.acc.length+1) {(j7 n false ([109] ++(j0 [((n.id,n.acc.length+1),d)]).1)).1 with acc:=n.acc++ [((n.id,n.acc.length+1),d)] },((n.id,n.acc.length+1),d),0):=rfl
 have cy:=(zy.loc B px sb lb pb av n t).cut hN ((N2 w.heap.size w).alloc (N0 _) (.cells #[.int .i64 0,.int .u32 0,.string ⟨#[]⟩] 78));have an:=vw _ cy.blk;unfold ZJ at an;obtain⟨va,vc,rfl⟩:=hN.row.src.shape;unfold zz at hB;have e0:=hB.cell;have l0:=hB.lt;have az:IntKind.u32.wrap (n.acc.length:Int)=(n.acc.length:Int):=by rw [IntKind.wrap_u32];omega
 by_cases hd:n.down=true
 ·rw [if_pos hd] at ad
  rw [hd] at an;rw [ad];replace ad:=hid ad;replace an:=hid an;replace hd:=hid hd
  go_enter func46,ntmps46
  go_wp2_with fail
  refine an.out.mono ?_;rintro e w1⟨rfl,az⟩;obtain rfl:=az.symm;go_wp2;exact bodyPost_ret (v:=.tuple #[.agg #[.int .i64 0,.int .u32 0,.string ⟨#[]⟩],.int .i64 170]) (by simp [results,Tryz.results46,go_sem]) rfl (Y8 (zt.of_below t ow (pbx)) ⟨_,_,_,_,_,(zy.loc B px sb lb pb _ n t).below hN (pbx)⟩ 170)
 have bq:n.down=false:=by simpa using hd
 rw [if_neg hd] at ad;rw [bq] at an;replace an:=hid an;replace hd:=hid hd;replace bq:=hid bq;obtain⟨c,hc⟩:∃c,n.acc.length+1=c:=⟨_,rfl⟩;have c5:(n.acc.length:Int)+1=(c:Int):=by omega
 have c6:IntKind.u32.wrap ((n.acc.length:Int)+1)=(c:Int):=by rw [IntKind.wrap_u32];omega
 have c2:IntKind.u32.wrap (c:Int)=(c:Int):=by rw [IntKind.wrap_u32];omega
 rw [hc] at ad;have aa:=λW=>vG n.id c d W
 cases hr:zx ((n.id,c),d)
 ·rw [if_pos hr] at ad
  rw [hr] at aa;rw [ad];replace ad:=hid ad;replace aa:=hid aa;replace hr:=hid hr;replace hc:=hid hc
  go_enter func46,ntmps46
  go_wp2_with fail
  refine an.out.mono ?_;rintro e w1⟨rfl,az⟩;obtain rfl:=az.symm;go_wp2_with fail
  apply Ju (Wp:=λw'=>Below w.heap.size w w'/\Blk w' w.heap.size #[.int .i64 0,.int .u32 0,.string ⟨#[]⟩] 78/\Blk w' (w.heap.size+1) #[.int .i64 n.id,.int .u32 c,.string (bs d)] 78)
  case h=>
   go_region_with fail
   all_goals go_simp
   all_goals exact Jt ⟨pbx,bkx,bkx⟩
  case' h2=>
  rintro w1⟨bh,bg,am⟩;have bd:=am.cell;have bc:=am.lt;go_wp2_with fail
  refine(aa.out _).mono ?_;rintro e w2⟨rfl,al⟩;have ah:=bg.call al;have aq:=am.call al;have aj:=zh bh al;have bj:=ah.cell;have bk:=ah.frozen;have bo:=ah.lt;have bp:=aq.cell;have bm:=aq.lt;clear bd bc;have rr:=(((ah.set (o:=0) (.int .i64 0)).set (o:=1) (.int .u32 0)).set (o:=2) (.string ⟨#[]⟩)).cell;go_wp2;exact bodyPost_ret (v:=.tuple #[.agg #[.int .i64 0,.int .u32 0,.string ⟨#[]⟩],.int .i64 100]) (by simp [results,Tryz.results46,go_sem,rr]) rfl (Y8 (zt.of_below t ow (zn (zn (zn aj (by simp) _) (by simp) _) (by simp) _)) ⟨_,_,_,_,_,(zy.loc B px sb lb pb _ n t).below hN (zn (zn (zn aj (by simp) _) (by simp) _) (by simp) _)⟩ 100)
 rw [if_neg (by simp [hr])] at ad
 rw [hr] at aa;have ao:=VU hr;obtain⟨pk,bl⟩:∃pk,[1] ++jr ((n.id,c),d)=pk:=⟨_,rfl⟩;rw [bl] at ao;rw [ao] at ad;simp only at ad
 have cz:pk.length<=1010:=by
  rw [← bl];have:d.length<=1000:=by simp [zx] at hr;omega
  simp [jr,jd];omega
 have af:=λv W hW=>zeM v [((n.id,c),d)] W hW (by simp)
 rw [ao] at af;have a0:=λW h2 kb kc g h3 h4 k0 k1 kg=>YA B n t ht ow w ⟨_,_,_,_,_,hN⟩ hcap false [[109],pk] (by simp) (by simp) (by simp;omega) W h2 kb kc g h3 h4 k0 k1 kg
 rw [show [[109],pk].flatten=[109] ++pk by simp] at a0;unfold Yz at a0;have a9:(j7 n false ([109] ++pk)).1.acc=n.acc:=rfl;obtain⟨⟨m,ek⟩,hm⟩:∃R,j7 n false ([109] ++pk)=R:=⟨_,rfl⟩;rw [hm] at a0 ad a9;simp only at a0 ad a9;replace a0:=hid a0;replace hm:=hid hm;replace af:=hid af;replace aa:=hid aa;replace hr:=hid hr;replace hc:=hid hc;replace bl:=hid bl;replace ao:=hid ao;replace a9:=hid a9
 by_cases hek:ek=0
 ·subst hek
  rw [if_neg (by simp)] at ad;rw [ad];have t3:((0:Int) !=0)=false:=rfl;replace ad:=hid ad
  go_enter func46,ntmps46
  go_wp2_with fail
  refine an.out.mono ?_;rintro e w1⟨rfl,az⟩;obtain rfl:=az.symm;go_wp2_with fail
  apply Ju (Wp:=λw'=>Below w.heap.size w w'/\Blk w' w.heap.size #[.int .i64 0,.int .u32 0,.string ⟨#[]⟩] 78/\Blk w' (w.heap.size+1) #[.int .i64 n.id,.int .u32 c,.string (bs d)] 78)
  case h=>
   go_region_with fail
   all_goals go_simp
   all_goals exact Jt ⟨pbx,bkx,bkx⟩
  case' h2=>
  rintro w1⟨bh,bg,am⟩;have bd:=am.cell;have bc:=am.lt;go_wp2_with fail
  refine(aa.out _).mono ?_;rintro e w2⟨rfl,al⟩;have ah:=bg.call al;have aq:=am.call al;have aj:=zh bh al;have bj:=ah.cell;have bk:=ah.frozen;have bo:=ah.lt;have bp:=aq.cell;have bm:=aq.lt;clear bd bc;go_wp2_with fail
  refine(af.out _ _ (jP (n:=1) (size:=3) (cap:=1) (Blk.new (w:=w2) (cs:=#[.int .i64 n.id,.int .u32 c,.string (bs d)]) (t:=78) rfl) rfl (N0 1))).mono ?_;rintro e w4⟨rfl,b5⟩;have ag:Below w2.heap.size w2 w4:=zh (zi (N2 _ _) _) b5;have a6:=zh aj ag;have bu:=ah.call ag;have cc:=aq.call ag;clear bj bk bo bp bm;go_wp2_with fail
  refine(xy _ _ _).mono ?_;rintro e w5⟨rfl,rfl⟩;obtain⟨Wc,ae⟩:∃Wc,Wc=((w4.alloc (.cells #[.pointer (some ⟨B,0,none⟩)] 43)).alloc (.cells #[.bool false] 4)).alloc (.cells #[.string ⟨#[109]⟩,.string (bs pk)] 9):=⟨_,rfl⟩;have b8:Below w.heap.size w Wc:=by rw [ae];exact pbx
  have bw:Blk Wc w4.heap.size #[.pointer (some ⟨B,0,none⟩)] 43:=by rw [ae];exact bkx
  have bv:Blk Wc (w4.heap.size+1) #[.bool false] 4:=by rw [ae];exact bkx
  have b7:Blk Wc (w4.heap.size+1+1) #[.string ⟨#[109]⟩,.string (bs pk)] 9:=by rw [ae];exact bkx
  have a1:Blk Wc w.heap.size #[.int .i64 0,.int .u32 0,.string ⟨#[]⟩] 78:=by rw [ae];exact((bu.alloc _).alloc _).alloc _
  have a5:Blk Wc (w.heap.size+1) #[.int .i64 n.id,.int .u32 c,.string (bs d)] 78:=by rw [ae];exact((cc.alloc _).alloc _).alloc _
  have b1:=a6.size;go_wp2_with fail
  rw [← ae];clear ae;refine(a0.out Wc b8 w4.heap.size (w4.heap.size+1) _ b1 (by omega) bw bv b7).mono ?_;rintro e w6⟨rfl,ca,br,b3,ac⟩;have ak:=a1.kept (ac _ (N0 _) a1.lt).1;have a4:=a5.kept (ac _ (by omega) a5.lt).1;have ax:=(ac _ (N0 _) a1.lt).2;have a2:=(ac _ (by omega) a5.lt).2;have cq:=ak.cell;have cf:=ak.frozen;have ck:=ak.lt;obtain⟨cn,cm,cp,cj,c7,hI⟩:=b3;have au:m.acc.length=n.acc.length:=by rw [a9.out]
  have a8:=hI.blk;obtain⟨ce,ch,cb⟩:=hI.row.src.shape;subst cb;unfold zz at a8;have co:=(zy.loc B cn cm cp cj _ m t).below hI (zq (zi (N2 w6.heap.size w6) (.cells #[.int .i64 n.id,.int .u32 c,.string (bs d)] 78)));have bi:Src (w6.alloc (.cells #[.int .i64 n.id,.int .u32 c,.string (bs d)] 78)).drew (.slice (some ⟨w6.heap.size,0,none⟩) 1 1) 3 1 #[.int .i64 n.id,.int .u32 c,.string (bs d)].toList:=jP (n:=1) (size:=3) (cap:=1) (Blk.drew (Blk.new (w:=w6) (cs:=#[.int .i64 n.id,.int .u32 c,.string (bs d)]) (t:=78) rfl)) rfl (N0 1);obtain⟨v',W8,a7,ai,bn,a3⟩:=zQ zbD co.row bi (jv [((n.id,c),d)]) (by rw [au];omega) 42
  have ap:∀g,(Value.slice ce m.acc.length ch).ownBlock=some g->g≠B/\g≠w.heap.size+1/\g≠w.heap.size:=λg hg=>by
   refine⟨hI.row.ne_blk hI.blk (by decide) hg,λe=>?_,λe=>?_⟩
   ·have h1:=hI.rown g hg
    rw [e,a2] at h1;simp at h1
   have h1:=hI.rown g hg
   rw [e,ax] at h1;simp at h1
  have ba:=a8.kept (w':=W8) ((bn.block B (by have:=a8.lt;simp;omega) (λe=>(ap B e.symm).1 rfl)).trans (U4 w6 _ B a8.lt));have cg:=a4.kept (w':=W8) ((bn.block _ (by have:=a4.lt;simp;omega) (λe=>(ap _ e.symm).2.1 rfl)).trans (U4 w6 _ _ a4.lt));obtain⟨cl,ci⟩:=co.setAcc [((n.id,c),d)] ai bn a3;obtain⟨sa,sm,sc,rfl⟩:=ai.shape;have bt:=ba.cell;have b6:=ba.frozen;have c3:=ba.lt;replace ai:=hid ai;replace a3:=hid a3;replace ap:=hid ap;replace a7:=hid a7;replace au:=hid au;go_wp2_with fail
  refine zd [O 0,O 1,O 2,O 3,O 4,O 5,E 6,E 7,O 8,O 9,E 10] (some 10) (λw'=>Blk w' B #[.pointer (some ⟨cn,0,none⟩),.int .i64 m.id,.int .i64 m.version,.slice none 0 0,.pointer (some ⟨cm,0,none⟩),.pointer (some ⟨cp,0,none⟩),.pointer (some ⟨cj,0,none⟩),.slice ce m.acc.length ch,.int .i64 (m.offered:Nat),.int .i64 (m.applied:Nat),.int .i64 m.wanted,.bool m.down] 98/\Blk w' (w.heap.size+1) #[.int .i64 n.id,.int .u32 c,.string (bs d)] 78/\True) ⟨a8.drew,a4.drew,trivial⟩ ?_;clear bt b6
  refine Wd ?_
  refine zc rfl (λK hK=>?_);go_wp2;refine hK.out _ _ (λ_=>⟨(a8.alloc _).drew,(a4.alloc _).drew,trivial⟩) ?_;clear hK K;refine zc rfl (λK hK=>?_);refine zw rfl _ _ _ rfl rfl rfl a7.out ?_;unfold wpList;refine hK.out _ _ (λ_=>⟨ba,cg,trivial⟩) ?_;clear hK K
  refine Wd ?_
  have b6:=ba.frozen;have bt:=ba.cell;refine zc rfl (λK hK=>?_);go_wp2;refine hK.out _ _ (λhh=>absurd rfl hh) ?_;clear hK K b6 bt;refine ze ?_
  generalize hO9:ca.ext (w6.alloc (.cells #[.int .i64 n.id,.int .u32 c,.string (bs d)] 78)).drew.heap.size (λk=>(Value.slice sa sm sc).ownBlock=some k) (t++ [4])=ow9 at cl ci
  have bf:ow9 w.heap.size=[]:=by rw [← hO9];exact(Own.ext_old (by have:=ak.lt;simp;omega)).trans ax
  have b2:ow9 (w.heap.size+1)=[]:=by rw [← hO9];exact(Own.ext_old (by have:=a4.lt;simp;omega)).trans a2
  have b0:w.heap.size≠B:=by omega
  have be:w.heap.size+1≠B:=by omega
  have bz:=(ak.kept (w':=W8) ((bn.block _ (by have:=ak.lt;simp;omega) (λe=>(ap.out _ e.symm).2.2 rfl)).trans (U4 w6 _ _ ak.lt))).other (p:=⟨B,7,none⟩) b0 (.slice sa sm sc);have cr:=cg.other (p:=⟨B,7,none⟩) be (.slice sa sm sc);have aw:=Jc B _ t ow9 _ ⟨_,_,_,_,_,ci⟩ (by show(m.acc++ [((n.id,c),d)]).length<=_;rw [N1,au.out];simp;omega)
  have cv:jE ((m.acc++ [((n.id,c),d)]).length+1) {m with acc:=m.acc++ [((n.id,c),d)] } =jE c {m with acc:=n.acc++ [((n.id,c),d)] } :=by
   rw [a9.out,N1,U2,hc.out];exact XW c _ (by show(n.acc++_).length<=_;rw [N1,U2,hc.out];omega)
  rw [cv] at aw;have cx:zt t ow w ow9 (W8.setCell ⟨B,7,none⟩ (.slice sa sm sc)):=br.trans ((zt.of_below t ca (zq (zi (N2 w6.heap.size w6) _))).trans cl);replace aw:=hid aw;go_wp2_with fail
  refine aw.out.mono ?_;rintro e c4⟨rfl,b9,ar,b4⟩;have ay:=bz.kept (ar.block bz.lt (by rw [bf];exact zj ht));have cd:=cr.kept (ar.block cr.lt (by rw [b2];exact zj ht));have bb:=(ar.agree _ bz.lt).trans bf;have cu:=ay.cell;have c0:=ay.frozen;have cw:=ay.lt;have ct:=cd.cell;clear cq cf ck;have rr:=(((ay.set (o:=0) (.int .i64 n.id)).set (o:=1) (.int .u32 c)).set (o:=2) (.string (bs d))).cell;have c1:=cx.trans ar;go_wp2;exact bodyPost_ret (v:=.tuple #[.agg #[.int .i64 n.id,.int .u32 c,.string (bs d)],.int .i64 0]) (by simp [results,Tryz.results46,go_sem,rr]) rfl ⟨rfl,b9,((c1.setNew ⟨w.heap.size,0,none⟩ _ (N0 _)).setNew ⟨w.heap.size,1,none⟩ _ (N0 _)).setNew ⟨w.heap.size,2,none⟩ _ (N0 _),qm ht b4 bb _ _ _⟩
 rw [if_pos hek] at ad
 rw [ad];have t3:(ek !=0)=true:=by simpa using hek
 replace ad:=hid ad;replace hek:=hid hek
 go_enter func46,ntmps46
 go_wp2_with fail
 refine an.out.mono ?_;rintro e w1⟨rfl,az⟩;obtain rfl:=az.symm;go_wp2_with fail
 apply Ju (Wp:=λw'=>Below w.heap.size w w'/\Blk w' w.heap.size #[.int .i64 0,.int .u32 0,.string ⟨#[]⟩] 78/\Blk w' (w.heap.size+1) #[.int .i64 n.id,.int .u32 c,.string (bs d)] 78)
 case h=>
  go_region_with fail
  all_goals go_simp
  all_goals exact Jt ⟨pbx,bkx,bkx⟩
 case' h2=>
 rintro w1⟨bh,bg,am⟩;have bd:=am.cell;have bc:=am.lt;go_wp2_with fail
 refine(aa.out _).mono ?_;rintro e w2⟨rfl,al⟩;have ah:=bg.call al;have aq:=am.call al;have aj:=zh bh al;have bj:=ah.cell;have bk:=ah.frozen;have bo:=ah.lt;have bp:=aq.cell;have bm:=aq.lt;clear bd bc;go_wp2_with fail
 refine(af.out _ _ (jP (n:=1) (size:=3) (cap:=1) (Blk.new (w:=w2) (cs:=#[.int .i64 n.id,.int .u32 c,.string (bs d)]) (t:=78) rfl) rfl (N0 1))).mono ?_;rintro e w4⟨rfl,b5⟩;have ag:Below w2.heap.size w2 w4:=zh (zi (N2 _ _) _) b5;have a6:=zh aj ag;have bu:=ah.call ag;have cc:=aq.call ag;clear bj bk bo bp bm;go_wp2_with fail
 refine(xy _ _ _).mono ?_;rintro e w5⟨rfl,rfl⟩;obtain⟨Wc,ae⟩:∃Wc,Wc=((w4.alloc (.cells #[.pointer (some ⟨B,0,none⟩)] 43)).alloc (.cells #[.bool false] 4)).alloc (.cells #[.string ⟨#[109]⟩,.string (bs pk)] 9):=⟨_,rfl⟩;have b8:Below w.heap.size w Wc:=by rw [ae];exact pbx
 have bw:Blk Wc w4.heap.size #[.pointer (some ⟨B,0,none⟩)] 43:=by rw [ae];exact bkx
 have bv:Blk Wc (w4.heap.size+1) #[.bool false] 4:=by rw [ae];exact bkx
 have b7:Blk Wc (w4.heap.size+1+1) #[.string ⟨#[109]⟩,.string (bs pk)] 9:=by rw [ae];exact bkx
 have a1:Blk Wc w.heap.size #[.int .i64 0,.int .u32 0,.string ⟨#[]⟩] 78:=by rw [ae];exact((bu.alloc _).alloc _).alloc _
 have a5:Blk Wc (w.heap.size+1) #[.int .i64 n.id,.int .u32 c,.string (bs d)] 78:=by rw [ae];exact((cc.alloc _).alloc _).alloc _
 have b1:=a6.size;go_wp2_with fail
 rw [← ae];clear ae;refine(a0.out Wc b8 w4.heap.size (w4.heap.size+1) _ b1 (by omega) bw bv b7).mono ?_;rintro e w6⟨rfl,ca,br,b3,ac⟩;have ak:=a1.kept (ac _ (N0 _) a1.lt).1;have a4:=a5.kept (ac _ (by omega) a5.lt).1;have ax:=(ac _ (N0 _) a1.lt).2;have a2:=(ac _ (by omega) a5.lt).2;have cq:=ak.cell;have cf:=ak.frozen;have ck:=ak.lt;have rr:=(((ak.set (o:=0) (.int .i64 0)).set (o:=1) (.int .u32 0)).set (o:=2) (.string ⟨#[]⟩)).cell;go_wp2;exact bodyPost_ret (v:=.tuple #[.agg #[.int .i64 0,.int .u32 0,.string ⟨#[]⟩],.int .i64 ek]) (by simp [results,Tryz.results46,go_sem,rr]) rfl (Y8 (((br.setNew ⟨w.heap.size,0,none⟩ _ (N0 _)).setNew ⟨w.heap.size,1,none⟩ _ (N0 _)).setNew ⟨w.heap.size,2,none⟩ _ (N0 _)) (qm ht b3 ax _ _ _) ek)
