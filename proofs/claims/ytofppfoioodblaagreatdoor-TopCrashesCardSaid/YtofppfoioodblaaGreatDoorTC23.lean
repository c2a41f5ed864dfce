/- PARTS OF THE PROOF. -/
import Derived.Test.YtofppfoioodblaaGreatDoorTC22
set_option maxRecDepth 8000
set_option maxHeartbeats 4000000
open Go.Proofs.Tryz
namespace Go.Proofs.YtofppfoioodblaaGreatDoor
open Go Go.RowKit Go.Shelf Go.Extern.Stop Go.Stop Go.Extern
attribute [local go_sem] Oper.semAt_some zB zp
theorem zgJ {p:xH}{i:Int}{x:List UInt8}(h:(zV p i x).2.2≠0):(zV p i x).1=p:=by
 unfold zV at*
 split at h
 ·rename_i h0;rw [if_pos h0]
 rename_i h0;rw [if_neg h0]
 split at h
 ·rename_i y hy
  split at h
  ·rename_i h2;simp only [if_pos h2]
  simp at h
 simp at h
theorem zgK(p:xH)(i:Int)(x:List UInt8):(zV p i x).2.1.length<=5000:=by
 unfold zV
 split
 ·simp
 rename_i h
 split
 ·split<;>simp
 simp only [xO,N1,List.length_cons,Zg]
 simp only [not_or] at h;simp
 omega
def zkx(B:Nat)(t:List Nat)(ow:Own)(w:World)(R:zr×List zA×Int)(e:Ending)(w':World):Prop:=
 ∃v ow',e=.returned (.tuple #[v,.int .i64 R.2.2])/\zt t ow w ow' w'/\jF B R.1 t ow' w'/\Row w' 78 3 v R.2.1.length (R.2.1.flatMap zg)/\(∀g,v.ownBlock=some g->w.heap.size<=g/\ow' g=[])
theorem zgL {px sb lb pb:Nat}{av:Value}(a:Addr)(B:Nat)(n:zr)(t:List Nat)(ht:t≠ [])(ow:Own)(i:Int)(x:List UInt8)(hx:x.length<=1000000)(w:World)(hN:zy B px sb lb pb av n t ow w)(hcap:vP n.store)
 (he:jK w a) (hge:ow 2=[]) (hb:xm n.loc n.applied) (hap0:n.applied<=10000) (hacc:n.acc.length<=200000) (hkn:yz n.pax.known):
 Calls prog 154 #[.pointer (some ⟨B,0,none⟩),.int .i64 i,.string (bs x)] w (zkx B t ow w (jg n i x)):=by
 have hB:=hN.blk;have hr:=vw w hB;have aa:=λW hW=>XR px n.pax (t++ [0]) ow i x hx W hW
 have ad:jg n i x=if n.down then(n,[],170)
  else if(zV n.pax i x).2.2≠0 then(n,[],(zV n.pax i x).2.2)
  else if(zV n.pax i x).2.1=[] then((jp 10001 {n with pax:=(zV n.pax i x).1}).1,(jp 10001 {n with pax:=(zV n.pax i x).1}).2,0)
  else if(j7 {n with pax:=(zV n.pax i x).1} true (zV n.pax i x).2.1).2≠0 then((j7 {n with pax:=(zV n.pax i x).1} true (zV n.pax i x).2.1).1,[],(j7 {n with pax:=(zV n.pax i x).1} true (zV n.pax i x).2.1).2)
  else((jp 10001 (j7 {n with pax:=(zV n.pax i x).1} true (zV n.pax i x).2.1).1).1,(jp 10001 (j7 {n with pax:=(zV n.pax i x).1} true (zV n.pax i x).2.1).1).2,0):=rfl
 have aq:=zgK n.pax i x;have aj:= @zgJ n.pax i x;have af:=(JJ (p:=n.pax) i x).2.1 hkn;have ar:=he.lt;have ap:=hN.bad;unfold zz at hB;unfold ZJ at hr;have e0:=hB.cell;obtain⟨⟨p',rc,er⟩,au⟩:∃q,zV n.pax i x=q:=⟨_,rfl⟩;rw [au] at aa ad aq aj af;unfold VP at aa;simp only at aa ad aq aj af;replace au:=hid au;replace aa:=hid aa;replace aj:=hid aj;replace he:=hid he;replace ar:=hid ar;replace af:=hid af
 by_cases hd:n.down=true
 ·rw [if_pos hd] at ad
  rw [hd] at hr;rw [ad];replace ad:=hid ad;replace hr:=hid hr;replace hd:=hid hd
  go_enter func154,ntmps154
  go_wp2_with fail
  refine hr.out.mono ?_;rintro e w1⟨rfl,ak⟩;obtain rfl:=ak.symm;go_wp2;go_ret2
  exact⟨_,ow,rfl,zt.refl _ _ _,⟨_,_,_,_,_,hN⟩,z7 _ _ _,by simp [Value.ownBlock]⟩
 have aw:n.down=false:=by simpa using hd
 rw [if_neg hd] at ad;rw [aw] at hr;replace hr:=hid hr;replace hd:=hid hd;replace aw:=hid aw
 by_cases her:er=0
 ·subst her
  rw [if_neg (by simp)] at ad
  by_cases hrc:rc=[]
  ·rw [if_pos hrc] at ad
   rw [ad];have t1:(bs rc).toList.isEmpty=true:=by rw [yQ,hrc];rfl
   have ah:=λag W h1 he1 hg1=>Y9 a B {n with pax:=p'} t ht ag W h1 he1 hg1 hb hap0 hacc af.out ap
   unfold qn at ah;replace ah:=hid ah;replace ad:=hid ad;replace hrc:=hid hrc
   go_enter func154,ntmps154
   go_wp2_with fail
   refine hr.out.mono ?_;rintro e w1⟨rfl,ak⟩;obtain rfl:=ak.symm;go_wp2_with fail
   refine(aa.out _ hN.pax).mono ?_;rintro e w1⟨rfl,ag,ai,h1⟩;have ao:=hN.setPax _ ai h1;have an:=ai.mono (Sub.child t 0);have al:=an;go_wp2_with fail
   refine(ah.out ag w1 ⟨_,_,_,_,_,ao⟩ (he.out.step ht al hge) (by rw [al.agree _ ar.out];exact hge)).mono ?_;rintro e w5⟨v,ax,rfl,ay,a3,ae,ac⟩;have a0:=al.size;replace ac:=hid ac;replace ae:=hid ae;go_wp2;go_ret2
   exact⟨v,ax,rfl,al.trans ay,a3,ae.out,λg hg=>⟨Nat.le_trans a0 (ac.out g hg).1,(ac.out g hg).2⟩⟩
  rw [if_neg hrc] at ad
  have t1:(bs rc).toList.isEmpty=false:=by rw [yQ];cases rc with|nil=>exact absurd rfl hrc|cons _ _=>rfl
  have am:=λag w1 h1 W h2 kb kc g h3 h4 k0 k1 kg=>YA B {n with pax:=p'} t ht ag w1 h1 hcap true [rc] (by simp) (by simp) (by simp;omega) W h2 kb kc g h3 h4 k0 k1 kg
  rw [show [rc].flatten=rc by simp] at am;unfold Yz at am;have ah:=λag W h1 he1 hg1=>Y9 a B (j7 {n with pax:=p'} true rc).1 t ht ag W h1 he1 hg1 hb hap0 hacc af.out ap
  unfold qn at ah;obtain⟨⟨m,ek⟩,hm⟩:∃R,j7 {n with pax:=p'} true rc=R:=⟨_,rfl⟩;rw [hm] at am ad ah;simp only at am ad ah;replace am:=hid am;replace ah:=hid ah;replace hm:=hid hm;replace hrc:=hid hrc
  by_cases hek:ek=0
  ·subst hek
   rw [if_neg (by simp)] at ad;rw [ad];replace ad:=hid ad
   go_enter func154,ntmps154
   go_wp2_with fail
   refine hr.out.mono ?_;rintro e w1⟨rfl,ak⟩;obtain rfl:=ak.symm;go_wp2_with fail
   refine(aa.out _ hN.pax).mono ?_;rintro e w1⟨rfl,ag,ai,h1⟩;have ao:=hN.setPax _ ai h1;have an:=ai.mono (Sub.child t 0);go_wp2_with fail
   refine(xy _ _ _).mono ?_;rintro e w2⟨rfl,rfl⟩;go_wp2_with fail
   refine(am.out ag w1 ⟨_,_,_,_,_,ao⟩ (((w1.alloc (.cells #[.pointer (some ⟨B,0,none⟩)] 43)).alloc (.cells #[.bool true] 4)).alloc (.cells #[.string (bs rc)] 9)) (pbx) w1.heap.size (w1.heap.size+1) _ (N0 _) (by omega) (bkx) (bkx) (Blk.new (by simp))).mono ?_;rintro e w3⟨rfl,a1,a2,az, -⟩;have al:=an.trans a2;go_wp2_with fail
   refine(ah.out a1 w3 az (he.out.step ht al hge) (by rw [al.agree _ ar.out];exact hge)).mono ?_;rintro e w5⟨v,ax,rfl,ay,a3,ae,ac⟩;have a0:=al.size;replace ac:=hid ac;replace ae:=hid ae;go_wp2;go_ret2
   exact⟨v,ax,rfl,al.trans ay,a3,ae.out,λg hg=>⟨Nat.le_trans a0 (ac.out g hg).1,(ac.out g hg).2⟩⟩
  rw [if_pos hek] at ad
  rw [ad];have t2:(ek !=0)=true:=by simpa using hek
  replace ad:=hid ad;replace hek:=hid hek
  go_enter func154,ntmps154
  go_wp2_with fail
  refine hr.out.mono ?_;rintro e w1⟨rfl,ak⟩;obtain rfl:=ak.symm;go_wp2_with fail
  refine(aa.out _ hN.pax).mono ?_;rintro e w1⟨rfl,ag,ai,h1⟩;have ao:=hN.setPax _ ai h1;have an:=ai.mono (Sub.child t 0);go_wp2_with fail
  refine(xy _ _ _).mono ?_;rintro e w2⟨rfl,rfl⟩;go_wp2_with fail
  refine(am.out ag w1 ⟨_,_,_,_,_,ao⟩ (((w1.alloc (.cells #[.pointer (some ⟨B,0,none⟩)] 43)).alloc (.cells #[.bool true] 4)).alloc (.cells #[.string (bs rc)] 9)) (pbx) w1.heap.size (w1.heap.size+1) _ (N0 _) (by omega) (bkx) (bkx) (Blk.new (by simp))).mono ?_;rintro e w3⟨rfl,a1,a2,az, -⟩;go_wp2;go_ret2
  exact⟨_,a1,rfl,an.trans a2,az,z7 _ _ _,by simp [Value.ownBlock]⟩
 rw [if_pos her] at ad
 rw [ad];have t1:(er !=0)=true:=by simpa using her
 have a4:=aj.out her;subst a4;replace ad:=hid ad;replace her:=hid her
 go_enter func154,ntmps154
 go_wp2_with fail
 refine hr.out.mono ?_;rintro e w1⟨rfl,ak⟩;obtain rfl:=ak.symm;go_wp2_with fail
 refine(aa.out _ hN.pax).mono ?_;rintro e w1⟨rfl,ag,ai,h1⟩;have ao:=hN.setPax _ ai h1;have an:=ai.mono (Sub.child t 0);go_wp2;go_ret2
 exact⟨_,ag,rfl,an,⟨_,_,_,_,_,ao⟩,z7 _ _ _,by simp [Value.ownBlock]⟩
theorem zcs {px sb lb pb:Nat}{av:Value}(B:Nat)(n:zr)(t:List Nat)(ht:t≠ [])(ow:Own)(w:World)(hN:zy B px sb lb pb av n t ow w)(hap0:n.applied<=10000)(hkn:yz n.pax.known):
 Calls prog 97 #[.pointer (some ⟨B,0,none⟩)] w λe w'=>e=.returned (.int .i64 (yM n:Nat))/\Below w.heap.size w w':=by
 have hB:=hN.blk;have hn:=Jb w hB;unfold zz at hB;have e0:=hB.cell;have au:IntKind.i64.wrap ((n.applied:Int)+1)=(n.applied:Int)+1:=by rw [N8];omega
 replace hn:=hid hn;refine zm func97 rfl ?_;simp only [ntmps97,R8,Nat.reduceAdd,Nat.reduceSub];go_wp2_with fail
 refine hn.out.mono ?_;rintro e w1⟨rfl,a0⟩;obtain rfl:=a0.symm;have aj:=(zy.loc B px sb lb pb av n t).cut hN ((N2 w.heap.size w).alloc (N0 _) (.cells #[.int .i64 ((n.applied:Int)+1)] 3));have aq:=hB.alloc (.cells #[.int .i64 ((n.applied:Int)+1)] 3);have ai:Blk (w.alloc (.cells #[.int .i64 ((n.applied:Int)+1)] 3)) w.heap.size #[.int .i64 ((n.applied:Int)+1)] 3:=Blk.new (by simp);have ar:=(N2 w.heap.size w).alloc (N0 _) (.cells #[.int .i64 ((n.applied:Int)+1)] 3);go_wp2_with fail
 obtain⟨Wa,ak⟩:∃Wa,Wa=w.alloc (.cells #[.int .i64 ((n.applied:Int)+1)] 3):=⟨_,rfl⟩;have ao:Wa.heap.size=w.heap.size+1:=by rw [ak];simp
 rw [← ak] at aj aq ai ar⊢;clear ak e0;refine zd [O 0,O 1,O 2,O 3,E 4] none (λw'=>Blk w' w.heap.size #[.int .i64 ((n.applied:Int)+1)] 3/\True) ⟨ai.drew,trivial⟩ ?_
 refine Wb ?_
 refine zc rfl (λK hK=>?_);go_wp2_with fail
 refine(XV B _ _).mono ?_;rintro r w1⟨rfl,rfl⟩;obtain⟨W0,af⟩:∃W0,W0=((Wa.alloc (.cells #[.pointer (some ⟨B,0,none⟩)] 300)).alloc (.cells #[.int .i64 ((n.applied:Int)+1)] 3)).drew:=⟨_,rfl⟩;have ag:Below Wa.heap.size Wa W0:=by rw [af];exact pbx
 have ax:Blk W0 Wa.heap.size #[.pointer (some ⟨B,0,none⟩)] 300:=by rw [af];exact bkx
 have aw:Blk W0 (Wa.heap.size+1) #[.int .i64 ((n.applied:Int)+1)] 3:=by rw [af];exact bkx
 have a4:W0.heap.size=w.heap.size+3:=by rw [af];simp [ao]
 have ap:=ai.call ag;rw [ao] at ax aw;go_wp2;rw [← af];refine hK.out _ _ (λ_=>⟨ap,trivial⟩) ?_;clear hK K af;refine ze ?_;have az:=(zy.loc B px sb lb pb av n t).below aj ag;have a1:(ow.cut w) w.heap.size=[]:=Own.cut_new (N0 _);have al:Below w.heap.size w W0:=ar.trans (ag.mono (by omega));have an:yM n=Jy n.pax.known 10001 (n.applied+1):=rfl;clear hB aq ai hN aj ag;replace au:=hid au;replace an:=hid an;go_wp2_with fail
 refine vg (gf:=188) (lb:=#[.pointer (some ⟨w.heap.size+1+1,0,none⟩),.pointer (some ⟨w.heap.size+1,0,none⟩)]) rfl (enters_of func188 (by kernel_rfl) rfl)
  (VA (w.heap.size+1+1) (w.heap.size+1) B n.pax (t++ [0]) (n.applied+1) (by omega) hkn) (λ_=>rfl)
  (λk X W=>Fr (λj=>j=w.heap.size) W0 X W/\Blk W w.heap.size #[.int .i64 (k:Nat)] 3/\∃f,f+k=10001+(n.applied+1)/\yM n=Jy n.pax.known f k)
  (λ_ _ _=>False)
  (λk X X' W W' h hm hx=>⟨h.1.step hm hx,h.2.1.kept (h.1.block hm (by omega)),h.2.2⟩)
  (λ_ _ X X' W W' h hm hx=>h)
  (λk X W h=>by
   refine⟨aw.mod h.1.2 (by omega),ax.mod h.1.2 (by omega),?_⟩;have hn:=zy.loc B px sb lb pb av n t _ (ow.cut w) _ W az h.1.2.size (λj hj hs=>⟨rfl,h.1.2.block j hj (λe=>by subst e;rw [a1] at hs;exact zj ht hs)⟩)
   exact⟨px,_,hn.blk.cell 0,hn.pax⟩)
  ⟨Fr.refl _ _,ap,10001,rfl,an.out⟩
  (λx=>[]) ?assign ?body ?done ?stop
 case assign=>
  intro l' x W K hK;rw [zW] at hK⊢
  gi_wp2
  exact hK
 case stop=>rintro D c X W hD ay h;exact h.elim
 case body=>
  rintro l' k x X W⟨ah,kN,f,hf,ad⟩ ac a5 _;rw [zW];have a3:=hkn _ _ ac;obtain⟨f',rfl⟩:∃f',f=f'+1:=⟨f - 1,by omega⟩;have hw:IntKind.i64.wrap ((k:Int)+1)=(k:Int)+1:=by rw [N8];omega
  have eN:=kN.cell;have fN:=kN.frozen;have lN:=kN.lt;have aa:yM n=Jy n.pax.known f' (k+1):=by rw [ad,Jy,ac];rfl
  have hm:Mod (λj=>j=w.heap.size) W (W.setCell ⟨w.heap.size,0,none⟩ (.int .i64 ((k:Int)+1))):=(Mod.refl (λj=>j=w.heap.size) W).thenSet (p:=⟨w.heap.size,0,none⟩) rfl _;replace ad:=hid ad;replace aa:=hid aa;replace ac:=hid ac
  gi_wp2
  exact⟨⟨ah.mod hm (λ_ _ e=>e),kN.set (o:=0) _,f',by omega,aa.out⟩,jJ.of_mod hm (λj hj hX e=>by subst e;have:=(ah.1 _ hX).1;omega)⟩
 case done=>
  rintro D k X W hD ay ae⟨ah,kN,f,hf,ad⟩ am
  have aa:yM n=k:=by
   rw [ad]
   cases f with
   |zero=>rfl
   |succ f=>rw [Jy,ae];rfl
  have a2:Below w.heap.size w W:=al.trans (ah.below (by omega) (λj hj=>by omega));have eN:=kN.cell;replace ad:=hid ad;replace aa:=hid aa;replace ae:=hid ae;go_wp2;refine jb (D:=D) (v:=.int .i64 (k:Nat)) am (by simp [results,Tryz.results97,go_sem]) ?_;rw [aa.out];exact⟨rfl,zM a2 (by omega) _⟩
theorem zec(k:UInt8)(d:List UInt8)(h:0<(bs (k::d)).size):(bs (k::d))[0]=k:=rfl
theorem zed {px sb lb pb:Nat}{av:Value}(B:Nat)(n:zr)(t:List Nat)(ow:Own)(r:List UInt8)(hl:r.length<=1000000)(w:World)(hN:zy B px sb lb pb av n t ow w)(hacc:n.acc.length<=200000):
 Calls prog 108 #[.pointer (some ⟨B,0,none⟩),.string (bs r)] w (vu B (yo n r) t ow w (.tuple #[])):=by
 cases r with
 |nil=>
  have t1:(bs []).toList.isEmpty=true:=by rw [yQ];rfl
  go_enter func108,ntmps108
  go_wp2;exact bodyPost_ret (results_none rfl _ _ _) rfl ⟨rfl,ow,zt.refl _ _ _,_,_,_,_,_,hN⟩
 |cons k d=>
  have hB:=hN.blk;unfold zz at hB;have e0:=hB.cell;have l0:=hB.lt;have ay:=zL (k::d);have t1:(bs (k::d)).toList.isEmpty=false:=by rw [yQ];rfl
  have a8:(bs (k::d)).extract 1 (bs (k::d)).size=bs d:=ju (k::d) 1;have af:yo n (k::d)=if k=109/\(jR d).2=0/\(jR d).1.length=1 then {n with acc:=n.acc++(jR d).1} else {n with pax:=yL n.pax (k::d)} :=rfl
  have ba:=λh=>zec k d h
  have a7:0<(bs (k::d)).size:=by rw [ay];simp
  have b1:(1:Int)<=((bs (k::d)).size:Int):=by omega
  have al:=λW=>zah d (by simp at hl;omega) W
  obtain⟨⟨l,er⟩,hu⟩:∃q,jR d=q:=⟨_,rfl⟩;rw [hu] at al af;unfold Y6 at al;simp only at al af;replace ay:=hid ay;replace al:=hid al;replace hu:=hid hu;have aq:=λW hW=>zcn px n.pax (t++ [0]) (by simp) ow (k::d) hl W hW
  unfold zag at aq;replace aq:=hid aq
  by_cases hk:k=109
  ·by_cases her:er=0
   ·by_cases hll:l.length=1
    ·rw [if_pos ⟨hk,her,hll⟩] at af
     rw [af];subst hk her;have t4:((l.length:Int)==1)=true:=by simp [hll]
     replace hll:=hid hll;replace af:=hid af
     go_enter func108,ntmps108
     go_wp2_with fail
     refine(al.out _).mono ?_;rintro e w1⟨v,rfl,ak,ad,ae⟩;have ag:=(zy.loc B px sb lb pb av n t).below hN ak;have ao:=zt.of_below t ow ak;have ai:=hB.call ak;have a1:=ai.cell;have ax:=ai.lt;have a2:=ai.frozen;obtain⟨va,vc,rfl⟩:=ad.src.shape;replace ad:=hid ad;replace ae:=hid ae;have aj:n.acc.length+l.length<=1073741824:=by rw [hll.out];omega
     obtain⟨v',W4,ap,ah,a0,an⟩:=zQ zbD ag.row ad.out.src (jv l) aj 42;obtain⟨na,nn,nc,rfl⟩:=ah.shape;obtain⟨aa,ac,rfl⟩:=ag.row.src.shape;obtain⟨a4,a3⟩:=ag.setAcc l ah a0 an;have aw:=ai.kept (w':=W4) (a0.block B ax (λe=>ag.row.ne_blk ag.blk (by decide) e.symm rfl));have a9:=aw.cell;have a5:=aw.frozen;have a6:=aw.lt;replace ah:=hid ah;replace an:=hid an;replace aj:=hid aj;replace ap:=hid ap
     go_wp2_with (at_builtin
                  refine zw rfl _ _ _ rfl rfl rfl ap.out ?_)
     exact bodyPost_ret (results_none rfl _ _ _) rfl ⟨rfl,_,ao.trans a4,_,_,_,_,_,a3⟩
    rw [if_neg (λh=>hll h.2.2)] at af
    rw [af];subst hk her;have t4:((l.length:Int)==1)=false:=by simp;omega
    replace hll:=hid hll;replace af:=hid af
    go_enter func108,ntmps108
    go_wp2_with fail
    refine(al.out _).mono ?_;rintro e w1⟨v,rfl,ak,ad,ae⟩;have ag:=(zy.loc B px sb lb pb av n t).below hN ak;have ao:=zt.of_below t ow ak;have ai:=hB.call ak;have a1:=ai.cell;have ax:=ai.lt;have a2:=ai.frozen;obtain⟨va,vc,rfl⟩:=ad.src.shape;replace ad:=hid ad;replace ae:=hid ae;go_wp2_with fail
    refine(aq.out _ ag.pax).mono ?_;rintro e w5⟨vv,rfl,ar,am,h5⟩;have au:=ag.setPax _ am h5;go_wp2;exact bodyPost_ret (results_none rfl _ _ _) rfl ⟨rfl,ar,ao.trans (am.mono (Sub.child t 0)),_,_,_,_,_,au⟩
   rw [if_neg (λh=>her h.2.1)] at af
   rw [af];subst hk;have t4:(er==0)=false:=by simpa using her
   replace her:=hid her;replace af:=hid af
   go_enter func108,ntmps108
   go_wp2_with fail
   refine(al.out _).mono ?_;rintro e w1⟨v,rfl,ak,ad,ae⟩;have ag:=(zy.loc B px sb lb pb av n t).below hN ak;have ao:=zt.of_below t ow ak;have ai:=hB.call ak;have a1:=ai.cell;have ax:=ai.lt;have a2:=ai.frozen;obtain⟨va,vc,rfl⟩:=ad.src.shape;replace ad:=hid ad;replace ae:=hid ae;go_wp2_with fail
   refine(aq.out _ ag.pax).mono ?_;rintro e w5⟨vv,rfl,ar,am,h5⟩;have au:=ag.setPax _ am h5;go_wp2;exact bodyPost_ret (results_none rfl _ _ _) rfl ⟨rfl,ar,ao.trans (am.mono (Sub.child t 0)),_,_,_,_,_,au⟩
  rw [if_neg (λh=>hk h.1)] at af
  rw [af];have az:k.toNat≠109:=λe=>hk (by have h:=UInt8.ofNat_toNat (x:=k);rw [e] at h;exact h.symm)
  have t2:((k.toNat:Int)==109)=false:=by simp;omega
  replace az:=hid az;replace hk:=hid hk;replace af:=hid af;have ag:=hN;have ao:=zt.refl t ow w
  go_enter func108,ntmps108
  go_wp2_with fail
  refine(aq.out _ ag.pax).mono ?_;rintro e w5⟨vv,rfl,ar,am,h5⟩;have au:=ag.setPax _ am h5;go_wp2;exact bodyPost_ret (results_none rfl _ _ _) rfl ⟨rfl,ar,ao.trans (am.mono (Sub.child t 0)),_,_,_,_,_,au⟩
theorem ziP {s b:List UInt8}(h:xU s=some b):b.length<=s.length:=by
 unfold xU at h
 split at h
 ·cases h
 split at h
 ·cases h;simp
 cases h
theorem zgM(s:List UInt8):(jy s).1.length<=4105:=by
 unfold jy
 split
 ·simp
 split
 ·simp
 split
 ·simp
 rename_i h
 split
 ·simp
 split
 ·simp
 rename_i b hb
 have:=ziP hb;rw [N7] at this;simp only [U3];omega
theorem XX:∀(n:Nat)(s:List UInt8),9*(xN n s).1.length<=s.length/\∀x∈(xN n s).1,x.length<=4105
 |0,s=>by simp [xN]
 |n+1,s=>by
  unfold xN
  split
  ·simp
  rename_i h
  have h1:=xw s;have h2:=XX n (s.drop (jy s).2);rw [U3] at h2;refine⟨?_,λx hx=>?_⟩
  ·simp only [List.length_cons];omega
  rcases List.mem_cons.1 hx with e|e
  ·rw [e];exact zgM s
  exact h2.2 x e
theorem zfl {W:World}{l:List (List UInt8)}{a:Option Addr}{cap:Nat}(h:Src W (.slice a l.length cap) 1 l.length (yR l)){k:Nat}{x:List UInt8}(hx:l[k]?=some x):
 ∃b off,a=some ⟨b,off,none⟩/\W.cell? ⟨b,off+k,none⟩=some (.string (bs x)):=by
 rcases h.2 with⟨h,h0⟩|⟨b,off,cap',h, -,hr⟩
 ·exfalso
  have:l=[]:=by
   cases l with
   |nil=>rfl
   |cons y l=>simp at h
  subst this;simp at hx
 cases h
 exact⟨b,off,rfl,hr k _ (by simp [yR,hx])⟩
theorem zak(n:zr)(s:StD)(l:List (List UInt8)):(l.foldl yo (vZ n s)).acc.length<=l.length/\yz (l.foldl yo (vZ n s)).pax.known/\(l.foldl yo (vZ n s)).loc=zeT n.version s/\(l.foldl yo (vZ n s)).applied=0/\(l.foldl yo (vZ n s)).bad=n.bad:=by
 rw [Xr];exact⟨zeZ l,zaL l,rfl,rfl,rfl⟩
theorem zct {px sb lb pb:Nat}{av:Value}(a:Addr)(B:Nat)(n:zr)(t:List Nat)(ht:t≠ [])(ow:Own)(w:World)(hN:zy B px sb lb pb av n t ow w)(he:jK w a)(hge:ow 2=[])(hv:known n.version=true)(hlog:n.store.log.length<=1048576):
 Calls prog 62 #[.pointer (some ⟨B,0,none⟩)] w (vu B (jt n (zk n.version)) t ow w (.int .i64 0)):=by
 have hB:=hN.blk;have hn:=Jb w hB;have aw:=hN.bad;have an:=zaV sb n.store (t++ [1]) ow w hN.st (by omega);have au:jt n (zk n.version)={(jE ((jp 10001 ((zZ n.store).2.foldl yo (vZ {n with store:=(zZ n.store).1} (zk n.version)))).1.acc.length+1) (jp 10001 ((zZ n.store).2.foldl yo (vZ {n with store:=(zZ n.store).1} (zk n.version)))).1)with down:=false} :=rfl;have aa:9*(zZ n.store).2.length<=n.store.log.length/\∀x∈(zZ n.store).2,x.length<=4105:=XX _ _;have af:=λl=>zak {n with store:=(zZ n.store).1} (zk n.version) l
 obtain⟨⟨s',rs⟩,hR⟩:∃q,zZ n.store=q:=⟨_,rfl⟩;rw [hR] at an au aa af;unfold JP at an;simp only at an au aa af;rw [au];obtain⟨m0,a1⟩:∃m0,m0=vZ {n with store:=s'} (zk n.version):=⟨_,rfl⟩;rw [← a1] at af⊢;unfold zz at hB;have e0:=hB.cell;replace hn:=hid hn;replace an:=hid an;replace au:=hid au;replace hR:=hid hR;replace af:=hid af;replace aa:=hid aa;replace a1:=hid a1
 go_enter func62,ntmps62
 go_wp2_with fail
 refine hn.out.mono ?_;rintro e w1⟨rfl,bt⟩;obtain rfl:=bt.symm;go_wp2_with fail
 refine an.out.mono ?_;rintro e w1⟨v,a7,rfl,ax,a4,ac,ai⟩;have a0:=hN.blkS ax;unfold zz at a0;have a2:=hN.ownS ax;obtain⟨va,vc,rfl⟩:=ac.shape;have aj:∀b,va=some b->w.heap.size<=b.block/\a7 b.block=[]:=λb hb=>ai b _ _ (by rw [hb])
 have bb:=ax.mono (Sub.child t 1);have a5:=he.step ht bb hge;clear e0 hB ai;replace ac:=hid ac;replace aj:=hid aj;go_wp2_with fail
 refine(zaj a B _ _ _ _ _ _ _ n.id n.version _ _ t a7 w1 hv a5 a2 a0).mono ?_;rintro e w2⟨rfl,ar,bo,br,bv,al,bg,bf,be,ba,bc⟩;have az:zt t a7 w1 ar w2:=⟨bg.mono (λk _ e=>by subst e;rw [a2];exact Sub.rfl' t),al⟩
 have bk:zy B bo sb br bv (.slice none 0 0) m0 t ar w2:=by
  rw [a1.out];exact⟨bf,be,yI.node (jx.loc sb _ (t++ [1])) a4 a2 bg al,ba,bc,z7 _ _ _,(al B a0.lt).trans a2,by simp [Value.ownBlock],aw⟩
 have ae:=ac.out.step az (λb l c hv=>by cases hv;rw [(aj.out b rfl).2];exact zj ht)
 have am:∀(k:Nat)(x:List UInt8),rs[k]?=some x->∀b l c,Value.slice va rs.length vc=.slice (some b) l c->¬Sub t (ar b.block):=λk x hx b l c hv=>by
  cases hv
  obtain⟨b',bu,hb,hc⟩:=zfl ac.out hx
  cases hb
  rw [al _ (show b'<w1.heap.size from jO hc),(aj.out _ rfl).2];exact zj ht
 replace am:=hid am;clear a0 bf be ba bc ae;have ae:=λ(k:Nat)(x:List UInt8)(hx:rs[k]?=some x)=>ac.out.step az (λb l c hv=>by cases hv;rw [(aj.out b rfl).2];exact zj ht)
 replace ae:=hid ae;go_wp2_with fail
 go_loopw [30] (λp30 wr=>∃(k:Nat)(ow':Own),p30=.int .i64 (k:Nat)/\k<=rs.length/\jF B ((rs.take k).foldl yo m0) t ow' wr/\zt t ar w2 ow' wr) (λp30 _=>rs.length - (intOf p30).toNat)
 case atStart=>exact⟨0,ar,rfl,by omega,⟨_,_,_,_,_,bk⟩,zt.refl _ _ _⟩
 case round=>
  obtain⟨k,ow',rfl,hk,a6,ay⟩:=hrel
  by_cases hkl:k<rs.length
  ·obtain⟨x,hx⟩:∃x,rs[k]?=some x:=⟨_,N3 hkl⟩
   have t1:decide ((k:Int)<(rs.length:Int))=true:=by simpa using hkl
   have y0:(k:Int)<(rs.length:Int):=by omega
   have y1:(0:Int)<=(k:Int):=by omega
   have b6:=aa.out.2 x (List.mem_of_getElem? hx);have h3:=(af.out (rs.take k)).1;rw [N7] at h3;have h9:=aa.out.1;have b0:IntKind.i64.wrap ((k:Int)+1)=(k:Int)+1:=by rw [N8];omega
   have ah:=(ae.out k x hx).step ay (am.out k x hx);obtain⟨b,bu,hb,hc⟩:=zfl ah hx;subst hb;obtain⟨b7,b1,b2,b5,cb,bh⟩:=a6;have aq:=zed B _ t ow' x (by omega) wr bh (by omega)
   have a8:(rs.take (k+1)).foldl yo m0=yo ((rs.take k).foldl yo m0) x:=by
    rw [List.take_add_one,hx];simp [List.foldl_append]
   rw [← a8] at aq;unfold vu at aq;replace a8:=hid a8;replace aq:=hid aq;replace hx:=hid hx;replace ah:=hid ah;clear bh h3 h9;go_wp2_with fail
   refine aq.out.mono ?_;rintro e w4⟨rfl,bn,bj,bi⟩;go_wp2
   go_roundw
   case rel=>exact⟨k+1,bn,by simp,by omega,bi,ay.trans bj⟩
   case measure=>simp [intOf];omega
  obtain rfl:k=rs.length:=by omega
  have t1:decide ((rs.length:Int)<(rs.length:Int))=false:=by simp
  have h3:=af.out rs;have h9:=aa.out.1;rw [List.take_length] at a6;have ao:=Y9 a B (rs.foldl yo m0) t ht ow' wr a6 (a5.step ht (az.trans ay) (by rw [ax.agree _ he.lt];exact hge)) (by rw [(az.trans ay).agree _ a5.lt,ax.agree _ he.lt];exact hge) (by rw [h3.2.2.1,h3.2.2.2.1];exact zkV _ _) (by rw [h3.2.2.2.1];omega) (by omega) h3.2.1 (h3.2.2.2.2.trans aw);have ad:=(vo 10001 (rs.foldl yo m0)).acc;obtain⟨⟨M,ms⟩,hM⟩:∃q,jp 10001 (rs.foldl yo m0)=q:=⟨_,rfl⟩;rw [hM] at ao ad;unfold qn at ao;simp only at ao ad;have bd:M.acc.length<=200000:=by rw [ad];omega
  replace ad:=hid ad;replace ao:=hid ao;have ag:∀(M':zr) ow' W',M'={(jE (M.acc.length+1) M)with down:=false} ->zt t ow w ow' W'->jF B M' t ow' W'->vu B {(jE ((jp 10001 (rs.foldl yo m0)).1.acc.length+1) (jp 10001 (rs.foldl yo m0)).1)with down:=false} t ow w (.int .i64 0) (.returned (.int .i64 0)) W':=λM' ow' W' h1 h2 h3=>⟨rfl,ow',h2,by rw [hM,← h1];exact h3⟩
  replace ag:=hid ag;replace hM:=hid hM;go_wp2_with fail
  refine ao.out.mono ?_;rintro e w5⟨v5,bl,rfl,bq,bz, -, -⟩;go_wp2_with fail
  refine(Jc B M t bl w5 bz (by omega)).mono ?_;rintro e w6⟨rfl,bw,bp,⟨b3,b4,b8,ca,b9,a9⟩⟩;obtain⟨M6,a3⟩:∃M6,M6=jE (M.acc.length+1) M:=⟨_,rfl⟩;rw [← a3] at a9;have ap:=a9.blk;unfold zz at ap;have c6:=ap.cell;have f6:=ap.frozen;have l6:=ap.lt;have ak:=a9.setOwn {M6 with down:=false} ((Mod.refl (λk=>k=B) w6).thenSet (p:=⟨B,11,none⟩) rfl (.bool false)) (ap.set (o:=11) (.bool false)) rfl rfl rfl rfl rfl rfl;have bm:=((((bb.trans az).trans ay).trans bq).trans bp).trans ak.1;replace a3:=hid a3;replace ak:=hid ak;go_wp2;go_ret
  exact ag.out _ bw _ (by rw [a3.out]) bm ⟨_,_,_,_,_,ak.out.2⟩
def okV(r:List UInt8×Bool):Value:=.tuple #[.string (bs r.1),.bool r.2]
theorem zal(e:jH)(mv:Value)(w:World)(hm:qJ w mv e.msgs)(hl:e.msgs.length<=1073741824):Calls prog 141 #[ZG e mv] w λr w'=>r=.returned (okV (ZK e))/\Below w.heap.size w w':=by
 have aa:=λW h=>YR e mv W h hl
 have ac:=Src.below hm ((N2 w.heap.size w).alloc (N0 _) (.cells #[.int .i64 e.kind,.int .u32 e.epoch,.int .i64 e.ver,mv] 241));unfold ZK okV;obtain⟨⟨x,er⟩,hx⟩:∃q,jC e=q:=⟨_,rfl⟩;rw [hx] at aa⊢;unfold ZG at aa⊢;simp only at aa⊢
 obtain⟨ma,mn,mc,rfl⟩:∃a n c,mv=.slice a n c:=by
  rcases hm.2 with⟨rfl, -⟩|⟨b,off,cap,rfl, -⟩
  ·exact⟨_,_,_,rfl⟩
  exact⟨_,_,_,rfl⟩
 replace aa:=hid aa;replace hx:=hid hx
 by_cases her:er=0
 subst her
 rotate_left
 have t1:(er==0)=false:=by simpa using her
 rw [show decide (er=0)=false by simpa using her];replace her:=hid her
 all_goals
  go_enter func141,ntmps141
  go_wp2_with fail
  refine(aa.out _ ac).mono ?_;rintro r w1⟨rfl,ad⟩;go_wp2;go_ret2
  exact⟨rfl,pbx⟩
theorem za0 {W:World}{l:List zA}{b off cap:Nat}(h:Src W (.slice (some ⟨b,off,none⟩) l.length cap) 3 l.length (l.flatMap zg)){k:Nat}(hk:k<=l.length):qJ W (.slice (some ⟨b,off,none⟩) k cap) (l.take k):=by
 have aa:(l.take k).length=k:=by rw [N7];omega
 rcases h.2 with⟨h, -⟩|⟨b',off',cap',h,hc,hr⟩
 ·cases h
 cases h
 show Src W _ 3 (l.take k).length _
 rw [aa];refine⟨?_,.inr ⟨b,off,cap,rfl,by omega,λj u hu=>?_⟩⟩
 ·rw [zbE,aa]
 refine hr j u ?_
 have ac:l.flatMap zg=(l.take k).flatMap zg++(l.drop k).flatMap zg:=by rw [← U5,List.take_append_drop]
 rw [ac,U8 (N6.1 hu).1];exact hu
theorem za1(era:ZA)(l:List zA){k:Nat}(hk:k<l.length)(r:List UInt8×Bool):yv era (l.take k) (l.drop k) r=if(ZK ⟨1,era.1,0,l.take (k+1)⟩).2 then yv era (l.take (k+1)) (l.drop (k+1)) (ZK ⟨1,era.1,0,l.take (k+1)⟩)else r:=by
 rw [List.drop_eq_getElem_cons hk,yv,List.take_add_one,N3 hk];rfl
theorem zcu {px sb lb pb:Nat}{av:Value}(B:Nat)(n:zr)(t:List Nat)(ow:Own)(era:ZA)(w:World)(hN:zy B px sb lb pb av n t ow w):
 Calls prog 142 #[.pointer (some ⟨B,0,none⟩),Yg era] w λr w'=>r=.returned (okV (yv era [] (ZI n.pool (if(Zy era.2.1).1=1 then 1 else 8)) ([],false)))/\Below w.heap.size w w':=by
 have hB:=hN.blk;unfold zz at hB;have e0:=hB.cell;have l0:=hB.lt;have ai:=λW=>zbw era.2.1 W
 obtain⟨ep,ve,st⟩:=era;unfold Yg okV;simp only at ai⊢;obtain⟨⟨q1,q2⟩,hq⟩:∃q,Zy ve=q:=⟨_,rfl⟩;rw [hq] at ai⊢;simp only at ai⊢;obtain⟨mo,ag⟩:∃mo:Nat,mo=(if q1=1 then 1 else 8):=⟨_,rfl⟩;rw [← ag];have ax:1<=mo/\mo<=64:=by rw [ag];split<;>omega
 have ad:=λW h=>zd6 pb n.pool (t++ [3]) ow mo ax.1 ax.2 W h
 have ap:(ZI n.pool mo).length<=mo:=by unfold ZI;rw [N7];omega
 obtain⟨l,hl⟩:∃l,ZI n.pool mo=l:=⟨_,rfl⟩;rw [hl] at ad ap⊢;unfold XL at ad;have aj:=hN.pool;replace hl:=hid hl;replace hq:=hid hq;replace ai:=hid ai;replace ad:=hid ad;have aq:Blk (w.alloc (.cells #[.int .u32 ep,.int .i64 ve,.int .i64 st] 197)) w.heap.size #[.int .u32 ep,.int .i64 ve,.int .i64 st] 197:=Blk.new (by simp)
 by_cases h1:q1=1
 have t1:(q1==1)=true:=by simp [h1]
 rw [if_pos h1] at ag;subst ag;replace h1:=hid h1
 rotate_left
 have t1:(q1==1)=false:=by simpa using h1
 rw [if_neg h1] at ag;subst ag;replace h1:=hid h1
 all_goals
  go_enter func142,ntmps142
  go_wp2_with fail
  refine(ai.out _).mono ?_;rintro r w1⟨rfl,a1⟩;have af:Below w.heap.size w w1:=pbx;have au:=hB.call af;have ay:=aq.call a1;have c1:=au.cell;go_wp2_with fail
  refine(ad.out _ ((j5.loc pb n.pool (t++ [3])).below aj af)).mono ?_;rintro r w2⟨v,rfl,ar,aa,ae⟩;have al:=zh af ar;have a0:=ay.call ar;obtain⟨va,vc,rfl⟩:=aa.src.shape;replace aa:=hid aa;replace ae:=hid ae;clear e0 l0 c1 au ay aq;go_wp2_with fail
  go_loopw [11,12,35] (λp11 p12 p35 wr=>∃(k:Nat)(x:List UInt8)(f:Bool),p11=.string (bs x)/\p12=.bool f/\p35=.int .i64 (k:Nat)/\k<=l.length/\Below w2.heap.size w2 wr/\yv (ep,ve,st) [] l ([],false)=yv (ep,ve,st) (l.take k) (l.drop k) (x,f)) (λ_ _ p35 _=>l.length - (intOf p35).toNat)
  case atStart=>exact⟨0,[],false,rfl,rfl,rfl,by omega,N2 _ _,rfl⟩
  case round=>
   obtain⟨k,x,f,rfl,rfl,rfl,hk,am,ac⟩:=hrel
   by_cases hkl:k<l.length
   ·rw [za1 (ep,ve,st) l hkl] at ac
    have t2:decide ((k:Int)<(l.length:Int))=true:=by simpa using hkl
    have a4:IntKind.i64.wrap ((k:Int)+1)=(k:Int)+1:=by rw [N8];omega
    obtain⟨g,a3,az⟩:∃g,va=some ⟨g,0,none⟩/\l.length<=vc:=by
     rcases aa.out.form with⟨h,h0, -⟩|⟨g,cap,h,h2, -⟩
     ·omega
     cases h;exact⟨g,rfl,h2⟩
    subst a3;have y0:(0:Int)<=(k:Int)+1:=by omega
    have y1:(k:Int)+1<=(vc:Int):=by omega
    have a5:IntKind.i64.wrap (vc:Int)=(vc:Int):=by
     rcases aa.out.form with⟨h,h0, -⟩|⟨g,cap,h,h2,h3⟩
     ·omega
     cases h;unfold maxLen at h3;rw [N8];omega
    have an:=a0.call am;have a2:qJ wr (.slice (some ⟨g,0,none⟩) (k+1) vc) (l.take (k+1)):=za0 (aa.out.src.below am) (by omega);have ah:=λW h=>zal ⟨1,ep,0,l.take (k+1)⟩ (.slice (some ⟨g,0,none⟩) (k+1) vc) W h (by show(l.take (k+1)).length<=_;rw [N7];omega)
    obtain⟨⟨y,b⟩,hy⟩:∃q,ZK ⟨1,ep,0,l.take (k+1)⟩=q:=⟨_,rfl⟩;rw [hy] at ah ac;unfold ZG okV at ah;simp only at ah ac;replace ah:=hid ah;replace hy:=hid hy;replace ac:=hid ac;go_wp2_with fail
    refine zd [O 0,O 1,O 2,O 3,O 4,O 5,E 6,E 7,O 8,O 9,O 10,O 11,O 12] none (λw'=>Blk w' w.heap.size #[.int .u32 ep,.int .i64 ve,.int .i64 st] 197/\True) ⟨an.drew,trivial⟩ ?_
    refine Wb ?_
    refine zc rfl (λK hK=>?_);go_wp2;refine hK.out _ _ (λ_=>⟨an.drew,trivial⟩) ?_;clear hK K;refine zc rfl (λK hK=>?_);go_wp2_with fail
    refine(ah.out _ (Src.below a2 (zq (N2 _ _)))).mono ?_;rintro r w4⟨rfl,aw⟩;have ak:=zh (zq am) aw;go_wp2;refine hK.out _ _ (λ_=>⟨an.drew.call aw,trivial⟩) ?_;clear hK K
    refine Wb ?_
    refine ze ?_
    cases b with
    |true=>
     go_wp2
     go_roundw
     case rel=>exact⟨k+1,y,true,rfl,rfl,by simp,by omega,ak,ac.out⟩
     case measure=>simp [intOf];omega
    |false=>
     have ao:Below w.heap.size w w4:=zh al ak;go_wp2;go_ret2
     exact⟨by rw [ac.out];rfl,ao⟩
   obtain rfl:k=l.length:=by omega
   have t2:decide ((l.length:Int)<(l.length:Int))=false:=by simp
   rw [List.drop_length,yv] at ac;have ao:Below w.heap.size w wr:=zh al am;replace ac:=hid ac;go_wp2;go_ret2
   exact⟨by rw [ac.out];rfl,ao⟩
theorem YB {px sb lb pb:Nat}{av:Value}(B:Nat)(n:zr)(t:List Nat)(ow:Own)(w:World)(hN:zy B px sb lb pb av n t ow w)(hl:n.loc.fold.eras.length<=536870912):
 Calls prog 96 #[.pointer (some ⟨B,0,none⟩)] w λr w'=>r=.returned (okV (jX n))/\Below w.heap.size w w':=by
 have hB:=hN.blk;have hr:=vw w hB
 have ac:jX n=if n.down then([],false)
  else if n.loc.blk then ZK ⟨3,(vC n.loc.fold.eras).1,0,[]⟩
  else if n.wanted≠0/\ye (vC n.loc.fold.eras).2.1 n.wanted=0 then ZK ⟨2,(vC n.loc.fold.eras).1,n.wanted,[]⟩
  else yv (vC n.loc.fold.eras) [] (ZI n.pool (if(Zy (vC n.loc.fold.eras).2.1).1=1 then 1 else 8)) ([],false):=by
  have hp:(Zy (vC n.loc.fold.eras).2.1).1=(if known (vC n.loc.fold.eras).2.1 then(if(vC n.loc.fold.eras).2.1=1 then(1:Int)else 2)else 0):=by
   unfold Zy;split
   ·split<;>rfl
   rfl
  rw [hp];rfl
 have ad:=λW hW=>VT lb n.loc (t++ [2]) ow W hW hl
 have a6:=λhb W hW=>zj1 lb n.loc (t++ [2]) ow W hW hb
 have ag:=λhb W hW=>zh1 lb n.loc (t++ [2]) ow W hW hb hl
 have ai:=hN.lo;have ay:=λk ep v W=>zal ⟨k,ep,v,[]⟩ (.slice none 0 0) W (zhB _ _) (by simp)
 unfold zz at hB;unfold ZJ at hr;have e0:=hB.cell;have l0:=hB.lt;obtain⟨⟨ep,ve,st⟩,hn⟩:∃x,vC n.loc.fold.eras=x:=⟨_,rfl⟩;rw [hn] at ad ac ag;have am:=λW (hb:Below w.heap.size w W)=>zcu B n t ow (ep,ve,st) W ((zy.loc B px sb lb pb av n t).below hN hb)
 unfold Yg at ad am;unfold okV ZG at ay;unfold okV at am;simp only at ad ac ag am;obtain⟨BB,a5⟩:∃q,yv (ep,ve,st) [] (ZI n.pool (if(Zy ve).1=1 then 1 else 8)) ([],false)=q:=⟨_,rfl⟩;rw [a5] at am ac;replace a5:=hid a5;replace ad:=hid ad;replace hn:=hid hn;replace ai:=hid ai;replace am:=hid am;replace ay:=hid ay;rw [ac]
 by_cases hd:n.down=true
 ·rw [if_pos hd] at ac⊢
  rw [hd] at hr;replace ac:=hid ac;replace hr:=hid hr;replace hd:=hid hd
  go_enter func96,ntmps96
  go_wp2_with fail
  refine hr.out.mono ?_;rintro e w1⟨rfl,ah⟩;obtain rfl:=ah.symm;go_wp2;go_ret2
  exact⟨rfl,N2 _ _⟩
 have a1:n.down=false:=by simpa using hd
 rw [if_neg hd] at ac⊢;rw [a1] at hr;replace hr:=hid hr;replace hd:=hid hd;replace a1:=hid a1
 by_cases hbl:n.loc.blk=true
 ·have aa:=ag hbl
  rw [if_pos hbl] at ac⊢;clear ag a6;replace aa:=hid aa;replace ac:=hid ac;replace hbl:=hid hbl
  go_enter func96,ntmps96
  go_wp2_with fail
  refine hr.out.mono ?_;rintro e w1⟨rfl,ah⟩;obtain rfl:=ah.symm;go_wp2_with fail
  refine(aa.out _ ai.out).mono ?_;rintro e w1⟨rfl,a4⟩;go_wp2_with fail
  refine(ay.out 3 ep 0 _).mono ?_;rintro e w2⟨rfl,au⟩;go_wp2;go_ret2
  exact⟨rfl,pbx⟩
 have ap:n.loc.blk=false:=by simpa using hbl
 have aa:=a6 ap;rw [if_neg hbl] at ac⊢;clear ag a6;replace aa:=hid aa;replace hbl:=hid hbl;replace ap:=hid ap
 by_cases hw:n.wanted=0
 ·rw [if_neg (λh=>h.1 hw)] at ac⊢
  have t2:(n.wanted !=0)=false:=by simp [hw]
  replace ac:=hid ac;replace hw:=hid hw
  go_enter func96,ntmps96
  go_wp2_with fail
  refine hr.out.mono ?_;rintro e w1⟨rfl,ah⟩;obtain rfl:=ah.symm;go_wp2_with fail
  refine(aa.out _ ai.out).mono ?_;rintro e w1⟨rfl,a4⟩;have af:Below w.heap.size w (w1.alloc (.cells #[.int .i64 0,.int .u32 0,.int .i64 0,.slice none 0 0] 241)):=pbx;have cA:=(hB.call af).cell;go_wp2_with fail
  refine(ad.out _ ((zK.loc lb n.loc (t++ [2])).below ai.out af)).mono ?_;rintro e w2⟨rfl,au⟩;obtain⟨W3,ae⟩:∃W3,W3=(w2.alloc (.cells #[.int .u32 ep,.int .i64 ve,.int .i64 st] 197)).drew:=⟨_,rfl⟩;have ak:Below w.heap.size w W3:=by rw [ae];exact zq (zi (zh af au) _)
  have al:Blk W3 w2.heap.size #[.int .u32 ep,.int .i64 ve,.int .i64 st] 197:=by rw [ae];exact bkx
  have an:=hB.call ak;clear cA;go_wp2_with fail
  refine zd [O 0,O 1,O 2,O 3,O 4,O 5,O 6,O 7,O 8,O 9,O 10,O 11,E 12,O 13,O 14] none (λw'=>Blk w' B #[.pointer (some ⟨px,0,none⟩),.int .i64 n.id,.int .i64 n.version,.slice none 0 0,.pointer (some ⟨sb,0,none⟩),.pointer (some ⟨lb,0,none⟩),.pointer (some ⟨pb,0,none⟩),av,.int .i64 (n.offered:Nat),.int .i64 (n.applied:Nat),.int .i64 n.wanted,.bool n.down] 98/\Blk w' w2.heap.size #[.int .u32 ep,.int .i64 ve,.int .i64 st] 197/\True) (by rw [← ae];exact⟨an,al,trivial⟩) ?_;rw [← ae];clear ae
  refine Wd ?_
  refine Wj ?_
  refine zc rfl (λK hK=>?_);go_wp2;refine hK.out _ _ (λ_=>⟨an,al,trivial⟩) ?_;clear hK K
  refine Wj ?_
  refine Wd ?_
  refine ze ?_;have cE:=(al).cell;go_wp2_with fail
  refine(am.out W3 ak).mono ?_;rintro e w7⟨rfl,a2⟩;have aq:=zh ak a2;go_wp2;go_ret2
  exact⟨rfl,aq⟩
 have t2:(n.wanted !=0)=true:=by simpa using hw
 obtain⟨er,az⟩:∃er,ye ve n.wanted=er:=⟨_,rfl⟩;have ax:=λW=>qc ve n.wanted W
 rw [az] at ax;rw [az] at ac⊢;replace az:=hid az;replace ax:=hid ax
 by_cases he:er=0
 ·rw [if_pos ⟨hw,he⟩] at ac⊢
  subst he;replace ac:=hid ac;replace hw:=hid hw
  go_enter func96,ntmps96
  go_wp2_with fail
  refine hr.out.mono ?_;rintro e w1⟨rfl,ah⟩;obtain rfl:=ah.symm;go_wp2_with fail
  refine(aa.out _ ai.out).mono ?_;rintro e w1⟨rfl,a4⟩;have af:Below w.heap.size w (w1.alloc (.cells #[.int .i64 0,.int .u32 0,.int .i64 0,.slice none 0 0] 241)):=pbx;have cA:=(hB.call af).cell;go_wp2_with fail
  refine(ad.out _ ((zK.loc lb n.loc (t++ [2])).below ai.out af)).mono ?_;rintro e w2⟨rfl,au⟩;obtain⟨W3,ae⟩:∃W3,W3=(w2.alloc (.cells #[.int .u32 ep,.int .i64 ve,.int .i64 st] 197)).drew:=⟨_,rfl⟩;have ak:Below w.heap.size w W3:=by rw [ae];exact zq (zi (zh af au) _)
  have al:Blk W3 w2.heap.size #[.int .u32 ep,.int .i64 ve,.int .i64 st] 197:=by rw [ae];exact bkx
  have an:=hB.call ak;clear cA;go_wp2_with fail
  refine zd [O 0,O 1,O 2,O 3,O 4,O 5,O 6,O 7,O 8,O 9,O 10,O 11,E 12,O 13,O 14] none (λw'=>Blk w' B #[.pointer (some ⟨px,0,none⟩),.int .i64 n.id,.int .i64 n.version,.slice none 0 0,.pointer (some ⟨sb,0,none⟩),.pointer (some ⟨lb,0,none⟩),.pointer (some ⟨pb,0,none⟩),av,.int .i64 (n.offered:Nat),.int .i64 (n.applied:Nat),.int .i64 n.wanted,.bool n.down] 98/\Blk w' w2.heap.size #[.int .u32 ep,.int .i64 ve,.int .i64 st] 197/\True) (by rw [← ae];exact⟨an,al,trivial⟩) ?_;rw [← ae];clear ae
  refine Wd ?_
  refine zc rfl (λK hK=>?_);go_wp2_with fail
  refine(ax.out _).mono ?_;rintro e w4⟨rfl,ao⟩;have aw:=an.call ao;have ar:=al.call ao;have aj:=zh ak ao;go_wp2;refine hK.out _ _ (λ_=>⟨aw,ar,trivial⟩) ?_;clear hK K
  refine Wd ?_
  refine ze ?_;go_wp2_with fail
  refine zd [O 0,O 1,O 2,O 3,O 4,O 5,E 6,E 7,O 8,O 9,O 10,O 11] none (λw'=>Blk w' B #[.pointer (some ⟨px,0,none⟩),.int .i64 n.id,.int .i64 n.version,.slice none 0 0,.pointer (some ⟨sb,0,none⟩),.pointer (some ⟨lb,0,none⟩),.pointer (some ⟨pb,0,none⟩),av,.int .i64 (n.offered:Nat),.int .i64 (n.applied:Nat),.int .i64 n.wanted,.bool n.down] 98/\Blk w' w2.heap.size #[.int .u32 ep,.int .i64 ve,.int .i64 st] 197/\True) ⟨aw.drew,ar.drew,trivial⟩ ?_
  refine Wd ?_
  refine zc rfl (λK hK=>?_);go_wp2;refine hK.out _ _ (λ_=>⟨aw.drew,ar.drew,trivial⟩) ?_;clear hK K;refine zc rfl (λK hK=>?_);go_wp2_with fail
  refine(ay.out 2 ep n.wanted _).mono ?_;rintro e w5⟨rfl,a3⟩;go_wp2;refine hK.out _ _ (λ_=>⟨aw.drew.call a3,ar.drew.call a3,trivial⟩) ?_;clear hK K
  refine Wd ?_
  refine ze ?_;have a0:=zh (zq aj) a3;go_wp2;go_ret2
  exact⟨rfl,a0⟩
 rw [if_neg (λh=>he h.2)] at ac⊢
 have t3:(er==0)=false:=by simpa using he
 replace ac:=hid ac;replace hw:=hid hw;replace he:=hid he
 go_enter func96,ntmps96
 go_wp2_with fail
 refine hr.out.mono ?_;rintro e w1⟨rfl,ah⟩;obtain rfl:=ah.symm;go_wp2_with fail
 refine(aa.out _ ai.out).mono ?_;rintro e w1⟨rfl,a4⟩;have af:Below w.heap.size w (w1.alloc (.cells #[.int .i64 0,.int .u32 0,.int .i64 0,.slice none 0 0] 241)):=pbx;have cA:=(hB.call af).cell;go_wp2_with fail
 refine(ad.out _ ((zK.loc lb n.loc (t++ [2])).below ai.out af)).mono ?_;rintro e w2⟨rfl,au⟩;obtain⟨W3,ae⟩:∃W3,W3=(w2.alloc (.cells #[.int .u32 ep,.int .i64 ve,.int .i64 st] 197)).drew:=⟨_,rfl⟩;have ak:Below w.heap.size w W3:=by rw [ae];exact zq (zi (zh af au) _)
 have al:Blk W3 w2.heap.size #[.int .u32 ep,.int .i64 ve,.int .i64 st] 197:=by rw [ae];exact bkx
 have an:=hB.call ak;clear cA;go_wp2_with fail
 refine zd [O 0,O 1,O 2,O 3,O 4,O 5,O 6,O 7,O 8,O 9,O 10,O 11,E 12,O 13,O 14] none (λw'=>Blk w' B #[.pointer (some ⟨px,0,none⟩),.int .i64 n.id,.int .i64 n.version,.slice none 0 0,.pointer (some ⟨sb,0,none⟩),.pointer (some ⟨lb,0,none⟩),.pointer (some ⟨pb,0,none⟩),av,.int .i64 (n.offered:Nat),.int .i64 (n.applied:Nat),.int .i64 n.wanted,.bool n.down] 98/\Blk w' w2.heap.size #[.int .u32 ep,.int .i64 ve,.int .i64 st] 197/\True) (by rw [← ae];exact⟨an,al,trivial⟩) ?_;rw [← ae];clear ae
 refine Wd ?_
 refine zc rfl (λK hK=>?_);go_wp2_with fail
 refine(ax.out _).mono ?_;rintro e w4⟨rfl,ao⟩;have aw:=an.call ao;have ar:=al.call ao;have aj:=zh ak ao;go_wp2;refine hK.out _ _ (λ_=>⟨aw,ar,trivial⟩) ?_;clear hK K
 refine Wd ?_
 refine ze ?_;have cE:=(ar).cell;go_wp2_with fail
 refine(am.out w4 aj).mono ?_;rintro e w7⟨rfl,a2⟩;have aq:=zh aj a2;go_wp2;go_ret2
 exact⟨rfl,aq⟩
