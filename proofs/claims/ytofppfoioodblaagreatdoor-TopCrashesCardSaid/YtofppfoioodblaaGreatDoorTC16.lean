/- PARTS OF THE PROOF. -/
import Derived.Test.YtofppfoioodblaaGreatDoorTC15
set_option maxRecDepth 8000
set_option maxHeartbeats 4000000
open Go.Proofs.Tryz
namespace Go.Proofs.YtofppfoioodblaaGreatDoor
open Go Go.RowKit Go.Shelf Go.Extern.Stop Go.Stop Go.Extern
attribute [local go_sem] Oper.semAt_some zB zp
theorem zad(B:Nat)(p:xH)(t:List Nat)(ow:Own)(i:Int)(w:World)(h:yh B p t ow w):
 Calls prog 299 #[.pointer (some ⟨B,0,none⟩),.int .i64 i] w λe w'=>e=.returned (.int .i64 (if zR i then 0 else 2))/\w'=w:=by
 obtain⟨hl,vb,kb,hB, -⟩:=h;unfold qB at hB;have e0:=hB.cell;have hi:=Y4 i w
 cases hin:zR i
 rw [hin] at hi
 rotate_left
 rw [hin] at hi;have h1:1<=i:=by simp [zR] at hin;omega
 have t1:decide (i<=0)=false:=by simp;omega
 all_goals
  replace hi:=hid hi;clear hB;replace hin:=hid hin
  go_enter func299,ntmps299
  go_wp2_with fail
  refine hi.out.mono ?_;rintro e w1⟨rfl,rfl⟩;go_wp2;go_ret
  exact⟨rfl,rfl⟩
theorem QA(b:Nat)(w:World):(binOp .eql 224 (.map (some b)) (.map none)).run prog w=.ok (.bool false) w:=by kernel_rfl
theorem XO(b:Nat)(w:World):(binOp .eql 225 (.map (some b)) (.map none)).run prog w=.ok (.bool false) w:=by kernel_rfl
theorem Y5(B:Nat)(p:xH)(t:List Nat)(ow:Own)(i:Int)(v:jw)(w:World)(h:yh B p t ow w):
 Calls prog 213 #[.pointer (some ⟨B,0,none⟩),.int .i64 i,y6 v] w (XN B {p with votes:=put i v p.votes} t ow w (.tuple #[])):=by
 obtain⟨hl,vb,kb,hB,hv,hk,ae,o1,o2,o3⟩:=h;unfold qB at hB;have ag:B≠vb:=hB.ne_map hv;have aj:B≠kb:=hB.ne_map hk;obtain⟨W1,aa⟩:∃W1,W1=w.alloc (.cells #[.int .u64 (v.1:Nat),.int .u64 (v.2.1:Nat),.string (bs v.2.2)] 317):=⟨_,rfl⟩;have ac:Below w.heap.size w W1:=by rw [aa];exact pbx
 have af:=hB.call ac;have kx:Blk W1 w.heap.size #[.int .u64 (v.1:Nat),.int .u64 (v.2.1:Nat),.string (bs v.2.2)] 317:=by rw [aa];exact Blk.new rfl
 have ad:z6 W1 vb Qw (p.votes.map λq=>(q.1,y6 q.2)):=hv.kept (ac.block vb hv.lt);obtain⟨o,hu,hm⟩:=(ad.kept (w':=W1.drew) rfl).update qg Tryz.underlying224 i (y6 v);rw [JD] at hm;have ah:vb<W1.heap.size:=ad.lt;unfold y6 Qw at hu;unfold y6;have e0:=hB.cell;have l0:=hB.lt;have ai:=QA vb;replace hm:=hid hm;replace hv:=hid hv;replace hk:=hid hk;clear ad
 go_enter func213,ntmps213
 go_wp2_with fail
 rw [← aa];clear aa;refine zd [O 0,O 1,O 2,O 3,O 4,O 5,E 6] (some 6) (λw'=>Blk w' B #[.map (some vb),.map (some kb),.int .i64 (p.length:Nat),.int .i64 0] 227/\Blk w' w.heap.size #[.int .u64 (v.1:Nat),.int .u64 (v.2.1:Nat),.string (bs v.2.2)] 317/\True) ⟨af.drew,kx.drew,trivial⟩ ?_
 refine Wd ?_
 refine zc rfl (λK hK=>?_);go_wp2;refine hK.out _ _ (λhh=>absurd rfl hh) ?_;clear hK K;refine ze ?_;go_wp2;go_end0
 refine⟨rfl,ow,⟨?_,λ_ _=>rfl⟩,hl,vb,kb,?_,hm.out,?_,ae,o1,o2,o3⟩
 ·exact((Mod.of_below (λk=>Sub t (ow k)) ac).thenDrew).thenPut (by rw [o2];exact Sub.rfl' t) o
 ·exact af.drew.putObj ag o
 exact hk.out.kept ((U1 (Ne.symm ae)).trans (ac.block kb hk.out.lt))
theorem XP(w:World):(zeroValue 317).run prog w=.ok (y6 (0,0,[])) w:=by kernel_rfl
theorem ZR(w:World):(zeroValue 375).run prog w=.ok (yb []) w:=by kernel_rfl
theorem XQ(p:xH)(i:Int):(zE i (p.votes.map λq=>(q.1,y6 q.2))).getD (y6 (0,0,[]))=y6 (zO p i):=by
 rw [xB];unfold zO;cases zE i p.votes<;>rfl
theorem Yv(B:Nat)(p:xH)(t:List Nat)(ow:Own)(i:Int)(w:World)(h:yh B p t ow w):
 Calls prog 189 #[.pointer (some ⟨B,0,none⟩),.int .i64 i] w λe w'=>e=.returned (.tuple #[.string (bs ((zE i p.known).getD [])),.bool (zE i p.known).isSome])/\Below w.heap.size w w':=by
 obtain⟨hl,vb,kb,hB,hv,hk,ac,o1,o2,o3⟩:=h;unfold qB at hB;have e0:=hB.cell;have aa:=hk.lookup_ok qg Tryz.underlying225 (ZR w) i;rw [xB,Option.isSome_map,show((zE i p.known).map yb).getD (yb [])=yb ((zE i p.known).getD [])by cases zE i p.known<;>rfl] at aa;unfold yb Qw at aa
 generalize(zE i p.known).getD []=x at*
 generalize(zE i p.known).isSome=b at*
 clear hB hv hk
 go_enter func189,ntmps189
 go_wp2;go_ret2
 exact⟨rfl,pbx⟩
theorem zfg(kind:UInt8)(i:Int)(h0:0<=i)(x:List UInt8)(b:Nat)(w:World)(hc:w.cell? ⟨b,0,none⟩=some (.string (bs x)))(hl:x.length<=1000000):
 Calls prog 255 #[.int .u8 (kind.toNat:Int),.int .i64 i,.slice (some ⟨b,0,none⟩) 1 1] w λe w'=>e=.returned (.string (bs (xO kind i x)))/\Below w.heap.size w w':=by
 have aa:Src w (.slice (some ⟨b,0,none⟩) 1 1) 1 [x].length (yR [x]):=⟨rfl,.inr ⟨b,0,1,rfl,N0 _,λj u hu=>by
  match j,hu with
  |0,hu=>cases hu;exact hc⟩⟩
 have:=ziC kind i h0 _ [x] w aa (by simp) (by simp [zay];omega)
 rwa [show [x].flatten=x by simp] at this
theorem zkp(kind:UInt8)(i:Int)(h0:0<=i)(x y:List UInt8)(b:Nat)(w:World)(hc:w.cell? ⟨b,0,none⟩=some (.string (bs x)))(hc1:w.cell? ⟨b,1,none⟩=some (.string (bs y)))(hl:x.length<=1000000)(hl:y.length<=1000000):
 Calls prog 255 #[.int .u8 (kind.toNat:Int),.int .i64 i,.slice (some ⟨b,0,none⟩) 2 2] w λe w'=>e=.returned (.string (bs (xO kind i (x++y))))/\Below w.heap.size w w':=by
 have aa:Src w (.slice (some ⟨b,0,none⟩) 2 2) 1 [x,y].length (yR [x,y]):=⟨rfl,.inr ⟨b,0,2,rfl,N0 _,λj u hu=>by
  match j,hu with
  |0,hu=>cases hu;exact hc
  |1,hu=>cases hu;exact hc1⟩⟩
 have:=ziC kind i h0 _ [x,y] w aa (by simp) (by simp [zay];omega)
 rwa [show [x,y].flatten=x++y by simp] at this
theorem zfh(n:Nat):(le8 n).length=8:=by simp [le8,jd]
def ziD(r:jw×List UInt8×Int):Value:=.tuple #[y6 r.1,.string (bs r.2.1),.int .i64 r.2.2]
theorem zaY(B:Nat)(p:xH)(t:List Nat)(ht:t≠ [])(ow:Own)(i:Int)(b:Nat)(hb:b<18446744073709551616)(w:World)(h:yh B p t ow w):
 Calls prog 249 #[.pointer (some ⟨B,0,none⟩),.int .i64 i,.int .u64 b] w (XN B (zD p i b).1 t ow w (ziD (zD p i b).2)):=by
 have aa:=λW hW=>zad B p t ow i W hW
 have ad:zD p i b=if zR i=false then(p,(0,0,[]),[],2)else if(yu (zO p i) b).2≠0 then(p,(0,0,[]),[],(yu (zO p i) b).2)else({p with votes:=put i (yu (zO p i) b).1 p.votes},(yu (zO p i) b).1,xO 112 i (le8 b),0):=rfl
 have h0:=h;obtain⟨hl,vb,kb,hB,hv, -⟩:=h;unfold qB at hB
 cases hin:zR i
 ·rw [hin] at aa
  rw [if_pos hin] at ad;rw [ad];replace ad:=hid ad;replace aa:=hid aa;replace h0:=hid h0;replace hin:=hid hin;unfold ziD y6;clear hB hv
  go_enter func249,ntmps249
  go_wp2_with fail
  refine(aa.out _ ((yh.loc B p t).below h0.out (pbx))).mono ?_;rintro e w1⟨rfl,rfl⟩;go_wp2;exact bodyPost_ret (v:=.tuple #[.agg #[.int .u64 0,.int .u64 0,.string ⟨#[]⟩],.string ⟨#[]⟩,.int .i64 2]) (by simp [results,Tryz.results249,go_sem]) rfl ⟨rfl,ow,zt.of_below t ow (pbx),(yh.loc B p t).below h0.out (pbx)⟩
 rw [hin] at aa
 rw [if_neg (by simp [hin])] at ad;have bc:0<=i:=by simp [zR] at hin;omega
 have af:=λW=>zcm (zO p i) b W
 have ai:∀W,Below w.heap.size w W->(Instr.lookup 224 (.map (some vb)) (.int .i64 i) false).run prog W=.ok (y6 (zO p i)) W:=λW hW=>by
  rw [← XQ p i];exact(hv.kept (hW.block vb hv.lt)).lookup qg Tryz.underlying224 (XP W) i
 obtain⟨⟨⟨p1,p2,p3⟩,er⟩,az⟩:∃r,yu (zO p i) b=r:=⟨_,rfl⟩;rw [az] at af ad;have a3:=ai (w.alloc (.cells #[.int .u64 0,.int .u64 0,.string ⟨#[]⟩] 317)) (pbx);unfold zaX at af;unfold y6 at af a3;simp only at ad af;have e0:=hB.cell;have l0:=hB.lt;replace az:=hid az;replace ai:=hid ai;replace af:=hid af;replace aa:=hid aa;replace h0:=hid h0;replace hin:=hid hin;clear hB hv
 by_cases he:er=0
 ·subst he
  rw [if_neg (by simp)] at ad;rw [ad];replace ad:=hid ad;have ac:=λW hW=>Y5 B p t (ow.cut w) i (p1,p2,p3) W hW
  have aj:=λW=>zac b hb W
  unfold ziD;unfold y6 at ac⊢;simp only at ac⊢;replace ac:=hid ac;replace aj:=hid aj;obtain⟨rc,ax⟩:∃rc,xO 112 i (le8 b)=rc:=⟨_,rfl⟩;have ae:=λg W hc=>zfg 112 i bc (le8 b) g W hc (by rw [zfh];omega)
  rw [ax] at ae⊢;replace ax:=hid ax;replace ae:=hid ae
  go_enter func249,ntmps249
  go_wp2_with fail
  refine(aa.out _ ((yh.loc B p t).below h0.out (pbx))).mono ?_;rintro e w1⟨rfl,rfl⟩;go_wp2_with fail
  refine(af.out _).mono ?_;rintro e w1⟨rfl,ay⟩;clear a3;have k6:Blk w1 w.heap.size #[.int .u64 0,.int .u64 0,.string ⟨#[]⟩] 317:=Blk.call (bkx) ay;have a0:Below w.heap.size w w1:=pbx;obtain⟨W2,an⟩:∃W2,W2=w1.alloc (.cells #[.int .u64 p1,.int .u64 p2,.string (bs p3)] 317):=⟨_,rfl⟩;have a2:Below w.heap.size w W2:=by rw [an];exact pbx
  have am:Blk W2 w.heap.size #[.int .u64 0,.int .u64 0,.string ⟨#[]⟩] 317:=by rw [an];exact k6.alloc _
  have aw:Blk W2 w1.heap.size #[.int .u64 p1,.int .u64 p2,.string (bs p3)] 317:=by rw [an];exact Blk.new rfl
  have a7:=a0.size;have bd:=k6.lt;clear k6;go_wp2_with fail
  rw [← an];refine(ac.out _ ((yh.loc B p t).cut h0.out a2)).mono ?_;rintro e w3⟨rfl,a1,al,h3⟩;have ba:=am.kept (al.free ht (N0 _) am.lt).1;have a6:=aw.kept (al.free ht a7 aw.lt).1;have ag:=zt.wrap a2 al;have bb:=(al.free ht (N0 _) am.lt).2;clear am aw al;replace h3:=hid h3;replace ag:=hid ag;go_wp2_with fail
  refine zd [O 0,O 1,O 2,E 3,E 4,E 5,E 6,O 7,O 8] none (λw'=>Blk w' w1.heap.size #[.int .u64 p1,.int .u64 p2,.string (bs p3)] 317/\True) ⟨a6.drew,trivial⟩ ?_
  refine Wb ?_
  refine zc rfl (λK hK=>?_);go_wp2_with fail
  refine(aj.out _).mono ?_;rintro e w4⟨rfl,ar⟩;have ap:=a6.drew.call ar;have a8:=ba.drew.call ar;go_wp2;refine hK.out _ _ (λ_=>⟨ap,trivial⟩) ?_;clear hK K;refine zc rfl (λK hK=>?_);go_wp2;refine hK.out _ _ (λ_=>⟨ap.alloc _,trivial⟩) ?_;clear hK K;refine zc rfl (λK hK=>?_);go_wp2_with fail
  refine(ae.out _ _ (by simp)).mono ?_;rintro e w5⟨rfl,au⟩;have a4:=(ap.alloc _).call au;have ao:=(a8.alloc _).call au;go_wp2;refine hK.out _ _ (λ_=>⟨a4,trivial⟩) ?_;clear hK K;have c5:=ao.cell;have f5:=ao.frozen;have l5:=ao.lt;refine zc rfl (λK hK=>?_);go_wp2;have ah:w1.heap.size≠w.heap.size:=by omega
  refine hK.out _ _ (λ_=>⟨((a4.other (p:=⟨w.heap.size,0,none⟩) ah _).other (p:=⟨w.heap.size,1,none⟩) ah _).other (p:=⟨w.heap.size,2,none⟩) ah _,trivial⟩) ?_;clear hK K
  refine Wb ?_
  refine ze ?_;have rr:=(((ao.set (o:=0) (.int .u64 p1)).set (o:=1) (.int .u64 p2)).set (o:=2) (.string (bs p3))).cell;have ak:Below w3.heap.size w3 w5:=zh (zi (zh (zq (N2 _ _)) ar) _) au;have a9:zt t ow w a1 w5:=ag.out.trans (zt.of_below t a1 ak);go_wp2;refine bodyPost_ret (v:=.tuple #[.agg #[.int .u64 p1,.int .u64 p2,.string (bs p3)],.string (bs rc),.int .i64 0]) (by simp [results,Tryz.results249,go_sem,rr]) rfl ⟨rfl,a1,?_,?_⟩
  ·exact((a9.setNew ⟨w.heap.size,0,none⟩ _ (N0 _)).setNew ⟨w.heap.size,1,none⟩ _ (N0 _)).setNew ⟨w.heap.size,2,none⟩ _ (N0 _)
  refine yh.loc B _ t _ _ _ _ ((yh.loc B _ t).below h3.out ak) (by simp) (λk hk hs=>⟨rfl,?_⟩)
  have aq:k≠w.heap.size:=λe=>by subst e;rw [bb] at hs;exact zj ht hs
  exact(N4 _ _ _ _ aq).trans ((N4 _ _ _ _ aq).trans (N4 _ _ _ _ aq))
 rw [if_pos he] at ad
 rw [ad];replace ad:=hid ad;have t1:(er !=0)=true:=by simpa using he
 replace he:=hid he;unfold ziD y6
 go_enter func249,ntmps249
 go_wp2_with fail
 refine(aa.out _ ((yh.loc B p t).below h0.out (pbx))).mono ?_;rintro e w1⟨rfl,rfl⟩;go_wp2_with fail
 refine(af.out _).mono ?_;rintro e w1⟨rfl,ay⟩;have k6:Blk w1 w.heap.size #[.int .u64 0,.int .u64 0,.string ⟨#[]⟩] 317:=Blk.call (bkx) ay;have c6:=k6.cell;have f6:=k6.frozen;have l6:=k6.lt;have a0:Below w.heap.size w w1:=pbx;have rr:=((((k6.set (o:=0) (.int .u64 0)).set (o:=1) (.int .u64 0)).set (o:=2) (.string ⟨#[]⟩)).alloc (.cells #[.int .u64 p1,.int .u64 p2,.string (bs p3)] 317)).cell;have a5:Below w.heap.size w ((((w1.setCell ⟨w.heap.size,0,none⟩ (.int .u64 0)).setCell ⟨w.heap.size,1,none⟩ (.int .u64 0)).setCell ⟨w.heap.size,2,none⟩ (.string ⟨#[]⟩)).alloc (.cells #[.int .u64 p1,.int .u64 p2,.string (bs p3)] 317)):=zi (zn (zn (zn a0 (by simp) _) (by simp) _) (by simp) _) _;go_wp2;exact bodyPost_ret (v:=.tuple #[.agg #[.int .u64 0,.int .u64 0,.string ⟨#[]⟩],.string ⟨#[]⟩,.int .i64 er]) (by simp [results,Tryz.results249,go_sem,rr]) rfl ⟨rfl,ow,zt.of_below t ow a5,(yh.loc B p t).below h0.out a5⟩
def VP(r:List UInt8×Int):Value:=.tuple #[.string (bs r.1),.int .i64 r.2]
theorem zgt(B:Nat)(p:xH)(t:List Nat)(_ht:t≠ [])(ow:Own)(i:Int)(b:Nat)(hb:b<18446744073709551616)(x:List UInt8)(hx:x.length<=1000000)(w:World)(h:yh B p t ow w):
 Calls prog 248 #[.pointer (some ⟨B,0,none⟩),.int .i64 i,.int .u64 b,.string (bs x)] w (XN B (vO p i b x).1 t ow w (VP (vO p i b x).2)):=by
 have aa:=λW hW=>zad B p t ow i W hW
 have ad:vO p i b x=if zR i=false then(p,[],2)else if(YV (zO p i) b x).2≠0 then(p,[],(YV (zO p i) b x).2)else({p with votes:=put i (YV (zO p i) b x).1 p.votes},xO 118 i (le8 b++x),0):=rfl
 have h0:=h;obtain⟨hl,vb,kb,hB,hv, -⟩:=h;unfold qB at hB
 cases hin:zR i
 ·rw [hin] at aa
  rw [if_pos hin] at ad;rw [ad];replace ad:=hid ad;replace aa:=hid aa;replace h0:=hid h0;replace hin:=hid hin;unfold VP;clear hB hv
  go_enter func248,ntmps248
  go_wp2_with fail
  refine(aa.out _ h0.out).mono ?_;rintro e w1⟨rfl,ai⟩;obtain rfl:=ai.symm;go_wp2;go_ret2
  exact⟨rfl,ow,zt.refl _ _ _,h0.out⟩
 rw [hin] at aa
 rw [if_neg (by simp [hin])] at ad;have ax:0<=i:=by simp [zR] at hin;omega
 have af:=λW=>ziA (zO p i) b x W
 have ap:(Instr.lookup 224 (.map (some vb)) (.int .i64 i) false).run prog w=.ok (y6 (zO p i)) w:=by
  rw [← XQ p i];exact hv.lookup qg Tryz.underlying224 (XP w) i
 obtain⟨⟨⟨p1,p2,p3⟩,er⟩,an⟩:∃r,YV (zO p i) b x=r:=⟨_,rfl⟩;rw [an] at af ad;unfold zaX at af;unfold y6 at af ap;simp only at ad af;have e0:=hB.cell;have l0:=hB.lt;replace an:=hid an;replace af:=hid af;replace aa:=hid aa;replace h0:=hid h0;replace hin:=hid hin;clear hB hv
 by_cases he:er=0
 ·subst he
  rw [if_neg (by simp)] at ad;rw [ad];replace ad:=hid ad;have ac:=λW hW=>Y5 B p t (ow.cut w) i (p1,p2,p3) W hW
  have ah:=λW=>zac b hb W
  unfold VP;unfold y6 at ac;simp only at ac⊢;replace ac:=hid ac;replace ah:=hid ah;obtain⟨rc,am⟩:∃rc,xO 118 i (le8 b++x)=rc:=⟨_,rfl⟩;have ae:=λg W hc hc1=>zkp 118 i ax (le8 b) x g W hc hc1 (by rw [zfh];omega) hx
  rw [am] at ae⊢;replace am:=hid am;replace ae:=hid ae
  go_enter func248,ntmps248
  go_wp2_with fail
  refine(aa.out _ h0.out).mono ?_;rintro e w1⟨rfl,ai⟩;obtain rfl:=ai.symm;go_wp2_with fail
  refine(af.out _).mono ?_;rintro e w1⟨rfl,ak⟩;clear ap;obtain⟨W2,al⟩:∃W2,W2=w1.alloc (.cells #[.int .u64 p1,.int .u64 p2,.string (bs p3)] 317):=⟨_,rfl⟩;have ao:Below w.heap.size w W2:=by rw [al];exact zi ak _
  go_wp2_with fail
  rw [← al];clear al;refine(ac.out _ ((yh.loc B p t).cut h0.out ao)).mono ?_;rintro e w3⟨rfl,aq,ar,h3⟩;have ag:=zt.wrap ao ar;clear ar;replace h3:=hid h3;replace ag:=hid ag;go_wp2_with fail
  refine(ah.out _).mono ?_;rintro e w4⟨rfl,au⟩;go_wp2_with fail
  refine(ae.out _ _ (by simp) (by simp)).mono ?_;rintro e w5⟨rfl,aw⟩;go_wp2;go_ret2
  have aj:Below w3.heap.size w3 w5:=zh (zi au _) aw;exact⟨rfl,aq,ag.out.trans (zt.of_below t aq aj),(yh.loc B _ t).below h3.out aj⟩
 rw [if_pos he] at ad
 rw [ad];replace ad:=hid ad;have t1:(er !=0)=true:=by simpa using he
 replace he:=hid he;unfold VP
 go_enter func248,ntmps248
 go_wp2_with fail
 refine(aa.out _ h0.out).mono ?_;rintro e w1⟨rfl,ai⟩;obtain rfl:=ai.symm;go_wp2_with fail
 refine(af.out _).mono ?_;rintro e w1⟨rfl,ak⟩;go_wp2;go_ret2
 exact⟨rfl,ow,zt.of_below t ow (zi ak _),(yh.loc B p t).below h0.out (zi ak _)⟩
theorem zae {K:List (Int×List UInt8)}{k:Nat}(h:zE ((k:Int)+1) K=none∨10000<=k):∀n,Yj K n k=k
 |0=>rfl
 |n+1=>by
  unfold Yj;rw [if_neg]
  rcases h with h|h
  ·rw [h];simp
  omega
theorem zgu {K:List (Int×List UInt8)}{k:Nat}(h:(zE ((k:Int)+1) K).isSome=true)(hk:k<10000)(n:Nat):Yj K (n+1) k=Yj K n (k+1):=by
 rw [Yj,if_pos ⟨h,hk⟩]
theorem zfi {K:List (Int×List UInt8)} :∀(n k:Nat),k<=10000->Yj K n k<=10000
 |0,k,h=>h
 |n+1,k,h=>by
  unfold Yj
  split
  ·rename_i hh;exact zfi n (k+1) (by omega)
  exact h
def zfj(B vb kb:Nat)(K:List (Int×List UInt8))(L:Nat)(W0:World)(k:Nat)(X:Nat->Prop)(W:World):Prop:=
 Fr (λk=>k=B) W0 X W/\k<=10000/\(∃n,Yj K n k=L/\10000<=n+k)/\Blk W B #[.map (some vb),.map (some kb),.int .i64 (k:Nat),.int .i64 0] 227
theorem zfj.stab {B vb kb:Nat}{K:List (Int×List UInt8)}{L:Nat}{W0:World}(hB:B<W0.heap.size):Qq (zfj B vb kb K L W0):=
 λ_ _ _ _ _ h hm hx=>⟨h.1.step hm hx,h.2.1,h.2.2.1,h.2.2.2.kept (h.1.block hm hB)⟩
theorem XR(B:Nat)(p:xH)(t:List Nat)(ow:Own)(i:Int)(x:List UInt8)(hx:x.length<=1000000)(w:World)(h:yh B p t ow w):
 Calls prog 205 #[.pointer (some ⟨B,0,none⟩),.int .i64 i,.string (bs x)] w (XN B (zV p i x).1 t ow w (VP (zV p i x).2)):=by
 have aa:=λW=>Y4 i W
 have an:=zL x
 have ac:zV p i x=if zR i=false∨4000<x.length then(p,[],2)else(match zE i p.known with
  |some y=>if y≠x then(p,([]:List UInt8),(91:Int))else(p,[],0)
  |none=>({p with known:=put i x p.known,length:=Yj (put i x p.known) 10000 p.length},xO 100 i x,0)):=rfl
 have h0:=h;obtain⟨hl,vb,kb,hB,hv,hk,bb,o1,o2,o3⟩:=h;unfold qB at hB;have e0:=hB.cell;have l0:=hB.lt
 by_cases hbad:zR i=false∨4000<x.length
 ·rw [if_pos hbad] at ac
  rw [ac];replace ac:=hid ac;unfold VP
  cases af:zR i
  ·rw [af] at aa
   replace aa:=hid aa;replace h0:=hid h0;replace af:=hid af;replace an:=hid an;clear hB hv hk hbad;refine zm func205 rfl ?_;simp only [ntmps205,R8,Nat.reduceAdd,Nat.reduceSub];go_wp2;go_step3;go_wp2_with fail
   refine(aa.out _).mono ?_;rintro e w1⟨rfl,rfl⟩;go_wp2;rw [Exit.noGoto_ret];exact jU (v:=.tuple #[.string ⟨#[]⟩,.int .i64 2]) (by simp [results,Tryz.results205,go_sem]) ⟨rfl,ow,zt.of_below t ow (pbx),(yh.loc B p t).below h0.out (pbx)⟩
  have t0:decide ((4000:Int)<((bs x).size:Int))=true:=by rw [an];simp;rcases hbad with h|h;rw [af] at h;cases h;omega
  rw [af] at aa;replace aa:=hid aa;replace h0:=hid h0;replace af:=hid af;replace an:=hid an;clear hB hv hk hbad;refine zm func205 rfl ?_;simp only [ntmps205,R8,Nat.reduceAdd,Nat.reduceSub];go_wp2;go_step3;go_wp2_with fail
  refine(aa.out _).mono ?_;rintro e w1⟨rfl,rfl⟩;go_wp2;rw [Exit.noGoto_ret];exact jU (v:=.tuple #[.string ⟨#[]⟩,.int .i64 2]) (by simp [results,Tryz.results205,go_sem]) ⟨rfl,ow,zt.of_below t ow (pbx),(yh.loc B p t).below h0.out (pbx)⟩
 rw [if_neg hbad] at ac
 have af:zR i=true:=by cases h:zR i;exact absurd (.inl h) hbad;rfl
 have bv:x.length<=4000:=by have:¬4000<x.length:=λh=>hbad (.inr h);omega
 have bo:0<=i:=by simp [zR] at af;omega
 have t0:decide ((4000:Int)<((bs x).size:Int))=false:=by rw [an];simp;omega
 rw [af] at aa
 have ax:∀W,Below w.heap.size w W->(Instr.lookup 225 (.map (some kb)) (.int .i64 i) true).run prog W=.ok (.tuple #[yb ((zE i p.known).getD []),.bool (zE i p.known).isSome]) W:=λW hW=>by
  have am:=(hk.kept (hW.block kb hk.lt)).lookup_ok qg Tryz.underlying225 (ZR W) i;rw [xB,Option.isSome_map,show((zE i p.known).map yb).getD (yb [])=yb ((zE i p.known).getD [])by cases zE i p.known<;>rfl] at am;exact am
 have am:=ax (w.alloc (.cells #[.pointer (some ⟨B,0,none⟩)] 92)) (pbx);unfold yb at am;clear ax;replace aa:=hid aa;replace h0:=hid h0;replace af:=hid af;replace an:=hid an;clear hbad
 cases hy:zE i p.known with
 |some y=>
  rw [hy] at am ac;simp only [Option.getD_some,Option.isSome_some] at am ac;have hq:=zfa y x;clear hB hv hk
  by_cases hyx:y=x
  ·rw [if_neg (by simpa using hyx)] at ac
   rw [ac];rw [show decide (y=x)=true by simpa using hyx] at hq;replace ac:=hid ac;replace hyx:=hid hyx;replace hy:=hid hy;unfold VP;refine zm func205 rfl ?_;simp only [ntmps205,R8,Nat.reduceAdd,Nat.reduceSub];go_wp2;go_step3;go_wp2_with fail
   refine(aa.out _).mono ?_;rintro e w1⟨rfl,rfl⟩;go_wp2;rw [Exit.noGoto_ret];exact jU (v:=.tuple #[.string ⟨#[]⟩,.int .i64 0]) (by simp [results,Tryz.results205,go_sem]) ⟨rfl,ow,zt.of_below t ow (pbx),(yh.loc B p t).below h0.out (pbx)⟩
  rw [if_pos (by simpa using hyx)] at ac
  rw [ac];rw [show decide (y=x)=false by simpa using hyx] at hq;replace ac:=hid ac;replace hyx:=hid hyx;replace hy:=hid hy;unfold VP;refine zm func205 rfl ?_;simp only [ntmps205,R8,Nat.reduceAdd,Nat.reduceSub];go_wp2;go_step3;go_wp2_with fail
  refine(aa.out _).mono ?_;rintro e w1⟨rfl,rfl⟩;go_wp2;rw [Exit.noGoto_ret];exact jU (v:=.tuple #[.string ⟨#[]⟩,.int .i64 91]) (by simp [results,Tryz.results205,go_sem]) ⟨rfl,ow,zt.of_below t ow (pbx),(yh.loc B p t).below h0.out (pbx)⟩
 |none=>
  rw [hy] at am ac;simp only [Option.getD_none,Option.isSome_none] at am ac;obtain⟨W1,au⟩:∃W1,W1=(w.alloc (.cells #[.pointer (some ⟨B,0,none⟩)] 92)).alloc (.cells #[.string (bs [])] 375):=⟨_,rfl⟩;have a5:Below w.heap.size w W1:=by rw [au];exact pbx
  obtain⟨o,hu,hm⟩:=(hk.kept (a5.block kb hk.lt)).update qg Tryz.underlying225 i (yb x);rw [JD] at hm;unfold yb Qw at hu;have br:=XO kb;replace hy:=hid hy;rw [au] at hu;replace hm:=hid hm;replace hv:=hid hv;replace hk:=hid hk;refine zm func205 rfl ?_;simp only [ntmps205,R8,Nat.reduceAdd,Nat.reduceSub];go_wp2;go_step3;go_wp2_with fail
  refine(aa.out _).mono ?_;rintro e w1⟨rfl,rfl⟩;go_wp2;obtain⟨W2,ar⟩:∃W2,W2=((w.alloc (.cells #[.pointer (some ⟨B,0,none⟩)] 92)).alloc (.cells #[.string (bs [])] 375)).putObj kb o:=⟨_,rfl⟩;rw [← ar];have a1:B≠kb:=hB.ne_map hk.out;have a8:Mod (λk=>k=kb) w W2:=by rw [ar,← au];exact(Mod.of_below (λk=>k=kb) a5).thenPut rfl o
  have ba:Blk W2 B #[.map (some vb),.map (some kb),.int .i64 (p.length:Nat),.int .i64 0] 227:=hB.mod a8 a1;have a3:Blk W2 w.heap.size #[.pointer (some ⟨B,0,none⟩)] 92:=by rw [ar];exact Blk.putObj (Blk.alloc (Blk.new rfl) _) (by have:=hk.out.lt;omega) o
  have a7:z6 W2 kb Qw ((put i x p.known).map λq=>(q.1,yb q.2)):=by rw [ar,← au];exact hm.out
  have bu:w.heap.size+2<=W2.heap.size:=by rw [ar];simp
  clear ar hu hm au a5 e0 am;obtain⟨L,hL⟩:∃L,Yj (put i x p.known) 10000 p.length=L:=⟨_,rfl⟩;have bp:L<=10000:=by rw [← hL];exact zfi _ _ hl
  rw [hL] at ac;obtain⟨rc,a6⟩:∃rc,xO 100 i x=rc:=⟨_,rfl⟩;have aj:=λg W hc=>zfg 100 i bo x g W hc hx
  rw [a6] at aj ac;replace a6:=hid a6;replace aj:=hid aj
  generalize put i x p.known=K at*
  go_step3;have e2:=ba.cell;have c2:=a3.cell;go_wp2_with fail
  refine(zgs _ _).mono ?_;rintro e w3⟨rfl,rfl⟩;clear e2 c2;go_wp2_with fail
  obtain⟨W0,aq⟩:∃W0,W0=W2.alloc (.cells #[.int .i64 (p.length:Nat)] 3):=⟨_,rfl⟩;have az:Blk W0 B #[.map (some vb),.map (some kb),.int .i64 (p.length:Nat),.int .i64 0] 227:=by rw [aq];exact ba.alloc _
  have bi:Blk W0 w.heap.size #[.pointer (some ⟨B,0,none⟩)] 92:=by rw [aq];exact a3.alloc _
  have bd:Blk W0 W2.heap.size #[.int .i64 (p.length:Nat)] 3:=by rw [aq];exact Blk.new rfl
  have ay:z6 W0 kb Qw (K.map λq=>(q.1,yb q.2)):=by rw [aq];exact a7.kept (U4 _ _ _ a7.lt)
  have a2:Mod (λk=>k=kb) w W0:=by rw [aq];exact a8.thenAlloc _
  rw [← aq];clear aq ba a3 a7 a8;have bg:w.heap.size+2<=W0.heap.size:=by have:=bd.lt;omega
  have al:∀D X W,W0.heap.size<=D->Fr (λk=>k=B) W0 X W->Blk W B #[.map (some vb),.map (some kb),.int .i64 (L:Nat),.int .i64 0] 227->∀w5,Below W.heap.size W w5->
   XN B (zV p i x).1 t ow w (VP (zV p i x).2) (.returned (.tuple #[.string (bs rc),.int .i64 0])) (w5.putObj D (.deferred none)):=by
   intro D X W hD ad ag w5 ap;rw [ac]
   have be:Mod (λk=>k=B∨k=kb) w (w5.putObj D (.deferred none)):=by
    have h1:=(a2.trans ad.2 (Z:=λk=>k=B∨k=kb) (λ_ _ e=>.inr e) (λ_ _ e=>.inl e)).thenCall ap;exact⟨h1.os,h1.tape,h1.output,by simpa using h1.size,λk hk hn=>(U1 (by omega)).trans (h1.block k hk hn)⟩
   have bj:=hv.out.lt;have bq:=hk.out.lt;refine⟨rfl,ow,⟨be.mono (λk _ e=>by rcases e with e|e;subst e;rw [o1];exact Sub.rfl' t;subst e;rw [o3];exact Sub.rfl' t),λ_ _=>rfl⟩,bp,vb,kb,?_,?_,?_,bb,o1,o2,o3⟩
   ·exact(ag.call ap).putObj (by omega) _
   ·exact hv.out.kept (be.block vb bj (λe=>by rcases e with e|e;exact hB.ne_map hv.out e.symm;exact bb e))
   refine(ay.kept (ad.2.block kb ay.lt (Ne.symm a1))).kept ((U1 (by omega)).trans (ap.block kb ?_))
   have:=ad.2.size;omega
  replace al:=hid al;replace ac:=hid ac
  refine vg (gf:=305) (lb:=#[.pointer (some ⟨W2.heap.size,0,none⟩)]) rfl (enters_of func305 (by kernel_rfl) rfl)
   (zd7 W2.heap.size p.length hl) (λ_=>rfl)
   (λk X W=>zfj B vb kb K L W0 k X W)
   (λc X W=>c=.exit 0/\Fr (λk=>k=B) W0 X W/\Blk W B #[.map (some vb),.map (some kb),.int .i64 (L:Nat),.int .i64 0] 227)
   (zfj.stab az.lt)
   (λc _ X X' W W' h hm hx=>⟨h.1,h.2.1.step hm hx,h.2.2.kept (h.2.1.block hm az.lt)⟩)
   (λk X W h=>bd.mod h.1.2 (by omega))
   ⟨Fr.refl _ _,hl,⟨10000,hL,by omega⟩,az⟩
   (λk=>[(10,.int .i64 (k:Nat))]) ?assign ?body ?done ?stop
  case assign=>
   intro l' y W K' hK;rw [zW] at hK⊢
   gi_wp2
   exact hK
  case body=>
   rintro l' k y X W⟨ad,bm,⟨n,hn,bh⟩,ag⟩⟨bl,ao⟩ bw _;rw [zW];have bn:=ay.kept (ad.2.block kb ay.lt (Ne.symm a1));have ae:=bn.lookup_ok qg Tryz.underlying225 (ZR W) (y:Int);rw [xB,Option.isSome_map,show((zE (y:Int) K).map yb).getD (yb [])=yb ((zE (y:Int) K).getD [])by cases zE (y:Int) K<;>rfl] at ae;unfold yb Qw at ae;have bc:=bi.mod ad.2 (by omega);have c0:=bc.cell;have bt:=bc.lt;have eW:=ag.cell;have fW:=ag.frozen;have lW:=ag.lt
   cases hlx:zE (y:Int) K with
   |none=>
    rw [hlx] at ae;simp only [Option.getD_none,Option.isSome_none] at ae;have a0:k=L:=by rw [← hn];exact(zae (.inl (by rw [ao] at hlx;exact hlx)) n).symm
    subst a0;replace hlx:=hid hlx;replace ao:=hid ao;replace hn:=hid hn
    gi_wp2
    have aw:Mod (λ_=>False) W (W.alloc (.cells #[.string (bs [])] 375)):=Mod.alloc _ _ _;exact⟨⟨rfl,ad.mod aw (λ_ _ h=>h.elim),ag.alloc _⟩,jJ.of_mod aw (λ_ _ _ h=>h)⟩
   |some z=>
    rw [hlx] at ae;simp only [Option.getD_some,Option.isSome_some] at ae
    have a4:Yj K (n - 1) y=L:=by
     obtain⟨m,rfl⟩:∃m,n=m+1:=⟨n - 1,by omega⟩;rw [ao] at hlx⊢;rw [← hn,zgu (by rw [show((k:Int)+1)=((k+1:Nat):Int)by omega,hlx];rfl) bl];rfl
    replace hlx:=hid hlx;replace ao:=hid ao;replace hn:=hid hn;replace a4:=hid a4
    gi_wp2
    have aw:Mod (λk=>k=B) W ((W.setCell ⟨B,2,none⟩ (.int .i64 (y:Nat))).alloc (.cells #[.string (bs z)] 375)):=((Mod.refl (λk=>k=B) W).thenSet (p:=⟨B,2,none⟩) rfl _).thenAlloc _;obtain rfl:=ao.out;exact⟨⟨ad.mod aw (λ_ _ h=>h),by omega,⟨n - 1,a4.out,by omega⟩,(ag.set (o:=2) _).alloc _⟩,jJ.of_mod aw (λk hk hX e=>by have:=ad.1 k hX;have:=az.lt;omega)⟩
  case done=>
   rintro D k X W hD bk a9⟨ad,bm,⟨n,hn,bh⟩,ag⟩ ai;have bf:k=10000:=a9;have a0:k=L:=by rw [← hn];exact(zae (.inr (by omega)) n).symm
   subst a0;replace hn:=hid hn;go_wp2_with fail
   refine(aj.out _ _ (by simp)).mono ?_;rintro e w5⟨rfl,ap⟩;go_wp2;rw [Exit.noGoto_ret];have ak:Below W.heap.size W w5:=zh (zi (N2 _ _) _) ap;have ah:w5.heap[D]?=some (.deferred (some [])):=(ak.block D (N5.1 ai).1).trans ai;exact jb (D:=D) (v:=.tuple #[.string (bs rc),.int .i64 0]) ah (by simp [results,Tryz.results205,go_sem]) (al.out D X W hD ad ag w5 ak)
  case stop=>
   rintro D c X W hD bk⟨rfl,ad,ag⟩ ai;go_wp2_with fail
   refine(aj.out _ _ (by simp)).mono ?_;rintro e w5⟨rfl,ap⟩;go_wp2;rw [Exit.noGoto_ret];have ak:Below W.heap.size W w5:=zh (zi (N2 _ _) _) ap;have ah:w5.heap[D]?=some (.deferred (some [])):=(ak.block D (N5.1 ai).1).trans ai;exact jb (D:=D) (v:=.tuple #[.string (bs rc),.int .i64 0]) ah (by simp [results,Tryz.results205,go_sem]) (al.out D X W hD ad ag w5 ak)
