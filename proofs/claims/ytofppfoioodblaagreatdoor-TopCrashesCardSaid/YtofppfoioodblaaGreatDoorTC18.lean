/- PARTS OF THE PROOF. -/
import Derived.Test.YtofppfoioodblaaGreatDoorTC17
set_option maxRecDepth 8000
set_option maxHeartbeats 4000000
open Go.Proofs.Tryz
namespace Go.Proofs.YtofppfoioodblaaGreatDoor
open Go Go.RowKit Go.Shelf Go.Extern.Stop Go.Stop Go.Extern
attribute [local go_sem] Oper.semAt_some zB zp
theorem zkq(a b:jw)(w:World):(binOp .neq 317 (.agg #[.int .u64 a.1,.int .u64 a.2.1,.string (bs a.2.2)]) (.agg #[.int .u64 b.1,.int .u64 b.2.1,.string (bs b.2.2)])).run prog w=.ok (.bool (decide (a≠b))) w:=by
 obtain⟨a1,a2,a3⟩:=a;obtain⟨b1,b2,b3⟩:=b;have hq:=zfa a3 b3;rw [run_neq_struct]
 by_cases h1:a1=b1
 ·subst h1
  by_cases h2:a2=b2
  ·subst h2
   by_cases h3:a3=b3
   ·subst h3;simp [go_sem]
   rw [show decide (a3=b3)=false by simpa using h3] at hq;simp [go_sem,h3,hq]
  have ac:¬((a2:Int)=(b2:Int)):=λe=>h2 (by omega)
  simp [go_sem,h2,ac]
 have aa:¬((a1:Int)=(b1:Int)):=λe=>h1 (by omega)
 simp [go_sem,h1,aa]
theorem Yx {s:List UInt8}{k:UInt8}{i:Int}{b:Nat}{x:List UInt8}(h:jL s=some (k,i,b,x)):1<=i/\i<=10000/\x.length<=s.length/\b<18446744073709551616:=by
 unfold jL at h;have g1:=xx ((s.drop 5).take 4);have g2:=xx ((s.drop 9).take 4)
 split at h
 ·cases h
 split at h
 ·cases h
 rename_i hb
 have hi:zR (yy ((s.drop 1).take 4):Int)=true:=by cases h:zR (yy ((s.drop 1).take 4):Int);exact absurd (.inr h) hb;rfl
 have aa:1<=(yy ((s.drop 1).take 4):Int)/\(yy ((s.drop 1).take 4):Int)<=10000:=by simpa [zR] using hi
 split at h
 ·split at h
  ·cases h;exact⟨aa.1,aa.2,by simp,by omega⟩
  cases h
 split at h
 ·split at h
  ·cases h
  split at h
  ·cases h
  split at h
  ·cases h;exact⟨aa.1,aa.2,by simp,by omega⟩
  cases h
 cases h
def zag(B:Nat)(p:xH)(t:List Nat)(ow:Own)(w:World)(e:Ending)(w':World):Prop:=
 ∃v:Int,e=.returned (.int .i64 v)/\∃ow',zt t ow w ow' w'/\yh B p t ow' w'
theorem zcn(B:Nat)(p:xH)(t:List Nat)(_ht:t≠ [])(ow:Own)(s:List UInt8)(hs:s.length<=1000000)(w:World)(h:yh B p t ow w):
 Calls prog 160 #[.pointer (some ⟨B,0,none⟩),.string (bs s)] w (zag B (yL p s) t ow w):=by
 have aa:=λW=>zgv s (by omega) W
 have ak:yL p s=match jL s with
  |none=>p
  |some (k,i,b,x)=>if k=100 then(zV p i x).1 else if qh k (zO p i) b x=zO p i then p else {p with votes:=put i (qh k (zO p i) b x) p.votes} :=rfl
 have h0:=h;obtain⟨hl,vb,kb,hB,hv, -⟩:=h;unfold qB at hB;have e0:=hB.cell;have l0:=hB.lt
 cases hrr:jL s with
 |none=>
  rw [hrr] at aa ak;simp only at ak;rw [ak];unfold JQ at aa;replace aa:=hid aa;replace ak:=hid ak;replace hrr:=hid hrr;replace h0:=hid h0;clear hB hv
  go_enter func160,ntmps160
  go_wp2_with fail
  refine(aa.out _).mono ?_;rintro e w1⟨a,b,c,d,rfl, -,am⟩;go_wp2;go_ret
  exact⟨_,rfl,ow,zt.of_below t ow (zi am _),(yh.loc B p t).below h0.out (zi am _)⟩
 |some r=>
  obtain⟨k,i,b,x⟩:=r;rw [hrr] at aa ak;simp only at ak;unfold JQ at aa;replace aa:=hid aa
  by_cases hk:k=100
  ·subst hk
   rw [if_pos rfl] at ak;rw [ak];obtain⟨bd,bh,bg,a7⟩:=Yx hrr;have ae:=λW hW=>XR B p t ow i x (by omega) W hW
   have t1:(((100:UInt8).toNat:Int)==100)=true:=rfl;replace ak:=hid ak;replace hrr:=hid hrr;replace h0:=hid h0;replace ae:=hid ae;unfold VP at ae;clear hB hv
   go_enter func160,ntmps160
   go_wp2_with fail
   refine(aa.out _).mono ?_;rintro e w1⟨a,b',c,d,rfl,hf,am⟩;obtain⟨rfl,aw,rfl,rfl⟩:=hf _ _ _ _ rfl;obtain rfl:=aw.symm;clear hf;go_wp2_with fail
   refine(ae.out _ ((yh.loc B p t).below h0.out (zi am _))).mono ?_;rintro e w2⟨rfl,ba,be,h2⟩;go_wp2;go_ret
   exact⟨_,rfl,ba,(zt.of_below t ow (zi am _)).trans be,h2⟩
  rw [if_neg hk] at ak
  rw [ak];obtain⟨bd,bh,bg,a7⟩:=Yx hrr
  have ac:∀W,Below w.heap.size w W->(Instr.lookup 224 (.map (some vb)) (.int .i64 i) false).run prog W=.ok (y6 (zO p i)) W:=λW hW=>by
   rw [← XQ p i];exact(hv.kept (hW.block vb hv.lt)).lookup qg Tryz.underlying224 (XP W) i
  have t1:((k.toNat:Int)==100)=false:=by
   simp only [beq_eq_false_iff_ne,ne_eq];intro hc;exact hk (UInt8.toNat_inj.1 (by simpa using(by omega:k.toNat=100)))
  have t2:decide (i<=0)=false:=by simp;omega
  obtain⟨V,hV⟩:∃V,qh k (zO p i) b x=V:=⟨_,rfl⟩;have ax:V=if k=118/\(zO p i).2.1<=b then(max (zO p i).1 b,b,x)else(max (zO p i).1 b,(zO p i).2):=by rw [← hV];rfl
  rw [hV] at ak⊢;have ad:=λW hW=>Y5 B p t ow i V W hW
  have af:=λW=>zkq V (zO p i) W
  obtain⟨⟨p0,q0,y0⟩,a9⟩:∃v,zO p i=v:=⟨_,rfl⟩;rw [a9] at ac ax af⊢;unfold y6 at ac ad;simp only at ac ax af;obtain⟨M,hM⟩:∃M,max p0 b=M:=⟨_,rfl⟩;have bl:max (p0:Int) (b:Int)=(M:Int):=by rw [← hM];omega
  rw [hM] at ax;replace ak:=hid ak;replace hrr:=hid hrr;replace h0:=hid h0;replace ac:=hid ac;replace hV:=hid hV;replace a9:=hid a9;replace hM:=hid hM;replace hk:=hid hk;clear hv
  by_cases h118:k=118/\q0<=b
  ·rw [if_pos h118] at ax
   obtain⟨rfl,a1⟩:=h118;subst ax;have t3:(((118:UInt8).toNat:Int)==118)=true:=rfl;have t4:decide ((q0:Int)<=(b:Int))=true:=by simp;omega
   replace ad:=hid ad;replace a1:=hid a1
   go_enter func160,ntmps160
   go_wp2_with fail
   refine(aa.out _).mono ?_;rintro e w1⟨a,b',c,d,rfl,hf,am⟩;obtain⟨rfl,aw,rfl,rfl⟩:=hf _ _ _ _ rfl;obtain rfl:=aw.symm;clear hf;have ah:=hB.call am;have a3:=ah.cell;have az:=ah.lt;go_wp2_with fail
   refine zd [O 0,O 1,O 2,O 3,O 4,O 5,O 6] none (λw'=>Blk w' B #[.map (some vb),.map (some kb),.int .i64 (p.length:Nat),.int .i64 0] 227/\Blk w' w1.heap.size #[.int .u8 118,.int .i64 i,.int .u64 b,.string (bs x)] 337/\True) ⟨(ah.alloc _).drew,Blk.drew (Blk.new rfl),trivial⟩ ?_
   refine We ?_
   refine ze ?_;go_wp2_with fail
   obtain⟨W2,ai⟩:∃W2,W2=(w1.alloc (.cells #[.int .u8 118,.int .i64 i,.int .u64 b,.string (bs x)] 337)).drew:=⟨_,rfl⟩;have aq:Below w.heap.size w W2:=by rw [ai];exact zq (zi am _)
   have ao:Blk W2 B #[.map (some vb),.map (some kb),.int .i64 (p.length:Nat),.int .i64 0] 227:=by rw [ai];exact(ah.alloc _).drew
   have ag:Blk W2 w1.heap.size #[.int .u8 118,.int .i64 i,.int .u64 b,.string (bs x)] 337:=by rw [ai];exact Blk.drew (Blk.new rfl)
   rw [← ai];clear ai a3 az ah;have an:Below w.heap.size w W2.drew:=zq aq;refine zd [O 0,O 1,O 2,O 3,O 4,O 5,O 6,E 7,E 8] none (λw'=>Blk w' B #[.map (some vb),.map (some kb),.int .i64 (p.length:Nat),.int .i64 0] 227/\Blk w' w1.heap.size #[.int .u8 118,.int .i64 i,.int .u64 b,.string (bs x)] 337/\(Instr.lookup 224 (.map (some vb)) (.int .i64 i) false).run prog w'=.ok (.agg #[.int .u64 p0,.int .u64 q0,.string (bs y0)]) w'/\True) ⟨ao.drew,ag.drew,ac.out _ an,trivial⟩ ?_
   refine Wh ?_
   refine zc rfl (λK hK=>?_);go_wp2;refine hK.out _ _ (λ_=>⟨ao.drew.alloc _,ag.drew.alloc _,ac.out _ (zi an _),trivial⟩) ?_;clear hK K;refine zc rfl (λK hK=>?_);go_wp2;refine hK.out _ _ (λ_=>⟨ao.drew.alloc _,ag.drew.alloc _,ac.out _ (zi an _),trivial⟩) ?_;clear hK K;refine ze ?_;obtain⟨W3,aj⟩:∃W3,W3=(W2.alloc (.cells #[.int .u64 p0,.int .u64 q0,.string (bs y0)] 317)).drew:=⟨_,rfl⟩;have ar:Below w.heap.size w W3:=by rw [aj];exact zq (zi aq _)
   have ap:Blk W3 w1.heap.size #[.int .u8 118,.int .i64 i,.int .u64 b,.string (bs x)] 337:=by rw [aj];exact(ag.alloc _).drew
   have au:Blk W3 W2.heap.size #[.int .u64 p0,.int .u64 q0,.string (bs y0)] 317:=by rw [aj];exact Blk.drew (Blk.new rfl)
   rw [← aj];clear aj ao aq an ag;have a5:=ap.cell;have a8:=ap.lt;have a4:=au.cell;have a6:=au.lt;go_wp2_with fail
   refine zd [O 0,O 1,O 2,O 3,O 4,E 5,O 6,E 7] none (λw'=>Blk w' w1.heap.size #[.int .u8 118,.int .i64 i,.int .u64 b,.string (bs x)] 337/\True) ⟨(ap.alloc _).drew,trivial⟩ ?_
   refine We ?_
   refine zc rfl (λK hK=>?_);go_wp2;refine hK.out _ _ (λ_=>⟨(ap.alloc _).drew,trivial⟩) ?_;clear hK K
   refine We ?_
   refine zc rfl (λK hK=>?_);go_wp2;refine hK.out _ _ (λ_=>⟨(ap.alloc _).drew,trivial⟩) ?_;clear hK K;refine ze ?_;obtain⟨W4,ay⟩:∃W4,W4=(W3.alloc (.cells #[.int .u64 M,.int .u64 b,.string (bs x)] 317)).drew:=⟨_,rfl⟩;have al:Below w.heap.size w W4:=by rw [ay];exact zq (zi ar _)
   have bb:Blk W4 w1.heap.size #[.int .u8 118,.int .i64 i,.int .u64 b,.string (bs x)] 337:=by rw [ay];exact(ap.alloc _).drew
   have bf:Blk W4 W2.heap.size #[.int .u64 p0,.int .u64 q0,.string (bs y0)] 317:=by rw [ay];exact(au.alloc _).drew
   have bc:Blk W4 W3.heap.size #[.int .u64 M,.int .u64 b,.string (bs x)] 317:=by rw [ay];exact Blk.drew (Blk.new rfl)
   rw [← ay];clear ay a5 a8 a4 a6 ap au;have bk:=bb.cell;have bj:=bf.cell;have bi:=bc.cell
   by_cases hVw:((M,b,x):jw)=(p0,q0,y0)
   ·rw [show decide (((M,b,x):jw)≠(p0,q0,y0))=false by simp [hVw]] at af
    replace hVw:=hid hVw;go_wp2;go_ret
    exact⟨_,rfl,ow,zt.of_below t ow al,(yh.loc B p t).below h0.out al⟩
   rw [show decide (((M,b,x):jw)≠(p0,q0,y0))=true by simp [hVw]] at af
   replace hVw:=hid hVw;go_wp2_with fail
   refine(ad.out _ ((yh.loc B p t).below h0.out al)).mono ?_;rintro e w5⟨rfl,a0,a2,h5⟩;go_wp2;go_ret
   exact⟨_,rfl,a0,(zt.of_below t ow al).trans a2,h5⟩
  rw [if_neg h118] at ax
  subst ax;replace ad:=hid ad
  by_cases h18:k=118
  ·subst h18
   have a1:¬q0<=b:=λh=>h118 ⟨rfl,h⟩
   have t3:(((118:UInt8).toNat:Int)==118)=true:=rfl;have t4:decide ((q0:Int)<=(b:Int))=false:=by simp;omega
   replace h118:=hid h118;replace a1:=hid a1
   go_enter func160,ntmps160
   go_wp2_with fail
   refine(aa.out _).mono ?_;rintro e w1⟨a,b',c,d,rfl,hf,am⟩;obtain⟨rfl,aw,rfl,rfl⟩:=hf _ _ _ _ rfl;obtain rfl:=aw.symm;clear hf;have ah:=hB.call am;have a3:=ah.cell;have az:=ah.lt;go_wp2_with fail
   refine zd [O 0,O 1,O 2,O 3,O 4,O 5,O 6] none (λw'=>Blk w' B #[.map (some vb),.map (some kb),.int .i64 (p.length:Nat),.int .i64 0] 227/\Blk w' w1.heap.size #[.int .u8 118,.int .i64 i,.int .u64 b,.string (bs x)] 337/\True) ⟨(ah.alloc _).drew,Blk.drew (Blk.new rfl),trivial⟩ ?_
   refine We ?_
   refine ze ?_;go_wp2_with fail
   obtain⟨W2,ai⟩:∃W2,W2=(w1.alloc (.cells #[.int .u8 118,.int .i64 i,.int .u64 b,.string (bs x)] 337)).drew:=⟨_,rfl⟩;have aq:Below w.heap.size w W2:=by rw [ai];exact zq (zi am _)
   have ao:Blk W2 B #[.map (some vb),.map (some kb),.int .i64 (p.length:Nat),.int .i64 0] 227:=by rw [ai];exact(ah.alloc _).drew
   have ag:Blk W2 w1.heap.size #[.int .u8 118,.int .i64 i,.int .u64 b,.string (bs x)] 337:=by rw [ai];exact Blk.drew (Blk.new rfl)
   rw [← ai];clear ai a3 az ah;have an:Below w.heap.size w W2.drew:=zq aq;refine zd [O 0,O 1,O 2,O 3,O 4,O 5,O 6,E 7,E 8] none (λw'=>Blk w' B #[.map (some vb),.map (some kb),.int .i64 (p.length:Nat),.int .i64 0] 227/\Blk w' w1.heap.size #[.int .u8 118,.int .i64 i,.int .u64 b,.string (bs x)] 337/\(Instr.lookup 224 (.map (some vb)) (.int .i64 i) false).run prog w'=.ok (.agg #[.int .u64 p0,.int .u64 q0,.string (bs y0)]) w'/\True) ⟨ao.drew,ag.drew,ac.out _ an,trivial⟩ ?_
   refine Wh ?_
   refine zc rfl (λK hK=>?_);go_wp2;refine hK.out _ _ (λ_=>⟨ao.drew.alloc _,ag.drew.alloc _,ac.out _ (zi an _),trivial⟩) ?_;clear hK K;refine zc rfl (λK hK=>?_);go_wp2;refine hK.out _ _ (λ_=>⟨ao.drew.alloc _,ag.drew.alloc _,ac.out _ (zi an _),trivial⟩) ?_;clear hK K;refine ze ?_;obtain⟨W3,aj⟩:∃W3,W3=(W2.alloc (.cells #[.int .u64 p0,.int .u64 q0,.string (bs y0)] 317)).drew:=⟨_,rfl⟩;have ar:Below w.heap.size w W3:=by rw [aj];exact zq (zi aq _)
   have ap:Blk W3 w1.heap.size #[.int .u8 118,.int .i64 i,.int .u64 b,.string (bs x)] 337:=by rw [aj];exact(ag.alloc _).drew
   have au:Blk W3 W2.heap.size #[.int .u64 p0,.int .u64 q0,.string (bs y0)] 317:=by rw [aj];exact Blk.drew (Blk.new rfl)
   rw [← aj];clear aj ao aq an ag;have a5:=ap.cell;have a8:=ap.lt;have a4:=au.cell;have a6:=au.lt;have al:=zi ar (.cells #[.int .u64 M,.int .u64 q0,.string (bs y0)] 317)
   by_cases hVw:((M,q0,y0):jw)=(p0,q0,y0)
   ·rw [show decide (((M,q0,y0):jw)≠(p0,q0,y0))=false by simp [hVw]] at af
    replace hVw:=hid hVw;go_wp2;go_ret
    exact⟨_,rfl,ow,zt.of_below t ow al,(yh.loc B p t).below h0.out al⟩
   rw [show decide (((M,q0,y0):jw)≠(p0,q0,y0))=true by simp [hVw]] at af
   replace hVw:=hid hVw;go_wp2_with fail
   refine(ad.out _ ((yh.loc B p t).below h0.out al)).mono ?_;rintro e w5⟨rfl,a0,a2,h5⟩;go_wp2;go_ret
   exact⟨_,rfl,a0,(zt.of_below t ow al).trans a2,h5⟩
  have t3:((k.toNat:Int)==118)=false:=by
   simp only [beq_eq_false_iff_ne,ne_eq];intro hc;exact h18 (UInt8.toNat_inj.1 (by simpa using(by omega:k.toNat=118)))
  replace h118:=hid h118;replace h18:=hid h18
  go_enter func160,ntmps160
  go_wp2_with fail
  refine(aa.out _).mono ?_;rintro e w1⟨a,b',c,d,rfl,hf,am⟩;obtain⟨rfl,aw,rfl,rfl⟩:=hf _ _ _ _ rfl;obtain rfl:=aw.symm;clear hf;have ah:=hB.call am;have a3:=ah.cell;have az:=ah.lt;go_wp2_with fail
  refine zd [O 0,O 1,O 2,O 3,O 4,O 5,O 6] none (λw'=>Blk w' B #[.map (some vb),.map (some kb),.int .i64 (p.length:Nat),.int .i64 0] 227/\Blk w' w1.heap.size #[.int .u8 k.toNat,.int .i64 i,.int .u64 b,.string (bs x)] 337/\True) ⟨(ah.alloc _).drew,Blk.drew (Blk.new rfl),trivial⟩ ?_
  refine We ?_
  refine ze ?_;go_wp2_with fail
  obtain⟨W2,ai⟩:∃W2,W2=(w1.alloc (.cells #[.int .u8 k.toNat,.int .i64 i,.int .u64 b,.string (bs x)] 337)).drew:=⟨_,rfl⟩;have aq:Below w.heap.size w W2:=by rw [ai];exact zq (zi am _)
  have ao:Blk W2 B #[.map (some vb),.map (some kb),.int .i64 (p.length:Nat),.int .i64 0] 227:=by rw [ai];exact(ah.alloc _).drew
  have ag:Blk W2 w1.heap.size #[.int .u8 k.toNat,.int .i64 i,.int .u64 b,.string (bs x)] 337:=by rw [ai];exact Blk.drew (Blk.new rfl)
  rw [← ai];clear ai a3 az ah;have an:Below w.heap.size w W2.drew:=zq aq;refine zd [O 0,O 1,O 2,O 3,O 4,O 5,O 6,E 7,E 8] none (λw'=>Blk w' B #[.map (some vb),.map (some kb),.int .i64 (p.length:Nat),.int .i64 0] 227/\Blk w' w1.heap.size #[.int .u8 k.toNat,.int .i64 i,.int .u64 b,.string (bs x)] 337/\(Instr.lookup 224 (.map (some vb)) (.int .i64 i) false).run prog w'=.ok (.agg #[.int .u64 p0,.int .u64 q0,.string (bs y0)]) w'/\True) ⟨ao.drew,ag.drew,ac.out _ an,trivial⟩ ?_
  refine Wh ?_
  refine zc rfl (λK hK=>?_);go_wp2;refine hK.out _ _ (λ_=>⟨ao.drew.alloc _,ag.drew.alloc _,ac.out _ (zi an _),trivial⟩) ?_;clear hK K;refine zc rfl (λK hK=>?_);go_wp2;refine hK.out _ _ (λ_=>⟨ao.drew.alloc _,ag.drew.alloc _,ac.out _ (zi an _),trivial⟩) ?_;clear hK K;refine ze ?_;obtain⟨W3,aj⟩:∃W3,W3=(W2.alloc (.cells #[.int .u64 p0,.int .u64 q0,.string (bs y0)] 317)).drew:=⟨_,rfl⟩;have ar:Below w.heap.size w W3:=by rw [aj];exact zq (zi aq _)
  have ap:Blk W3 w1.heap.size #[.int .u8 k.toNat,.int .i64 i,.int .u64 b,.string (bs x)] 337:=by rw [aj];exact(ag.alloc _).drew
  have au:Blk W3 W2.heap.size #[.int .u64 p0,.int .u64 q0,.string (bs y0)] 317:=by rw [aj];exact Blk.drew (Blk.new rfl)
  rw [← aj];clear aj ao aq an ag;have a5:=ap.cell;have a8:=ap.lt;have a4:=au.cell;have a6:=au.lt;have al:=zi ar (.cells #[.int .u64 M,.int .u64 q0,.string (bs y0)] 317)
  by_cases hVw:((M,q0,y0):jw)=(p0,q0,y0)
  ·rw [show decide (((M,q0,y0):jw)≠(p0,q0,y0))=false by simp [hVw]] at af
   replace hVw:=hid hVw;go_wp2;go_ret
   exact⟨_,rfl,ow,zt.of_below t ow al,(yh.loc B p t).below h0.out al⟩
  rw [show decide (((M,q0,y0):jw)≠(p0,q0,y0))=true by simp [hVw]] at af
  replace hVw:=hid hVw;go_wp2_with fail
  refine(ad.out _ ((yh.loc B p t).below h0.out al)).mono ?_;rintro e w5⟨rfl,a0,a2,h5⟩;go_wp2;go_ret
  exact⟨_,rfl,a0,(zt.of_below t ow al).trans a2,h5⟩
theorem zd9(s:List UInt8):(vY s).2=0∨(9<=(vY s).2/\(vY s).2<=s.length):=by
 unfold vY
 split
 ·exact .inl rfl
 split
 ·exact .inl rfl
 split
 ·exact .inl rfl
 right;simp only;omega
def JR(r:zA×Nat):Value:=.tuple #[y7 r.1,.int .i64 (r.2:Nat)]
theorem zgw(s:List UInt8)(hl:s.length<=1073741824)(w:World):Calls prog 211 #[.string (bs s)] w λe w'=>e=.returned (JR (vY s))/\Below w.heap.size w w':=by
 have ai:=zL s
 by_cases h9:s.length<9
 ·have hf:vY s=(((0,0),[]),0):=by unfold vY;rw [if_pos h9]
  rw [hf];unfold JR y7;have t0:decide (((bs s).size:Int)<9)=true:=by rw [ai];simp;omega
  replace ai:=hid ai;replace hf:=hid hf
  go_enter func211,ntmps211
  go_wp2;exact bodyPost_ret (v:=.tuple #[.agg #[.int .i64 0,.int .u32 0,.string ⟨#[]⟩],.int .i64 0]) (by simp [results,Tryz.results211,go_sem]) rfl ⟨rfl,pbx⟩
 have t0:decide (((bs s).size:Int)<9)=false:=by rw [ai];simp;omega
 have b9:(9:Int)<=((bs s).size:Int):=by omega
 have b5:(5:Int)<=((bs s).size:Int):=by omega
 have c5:¬(bs s).size<5:=by omega
 have c9:¬(bs s).size<9:=by omega
 have a4:0<(bs s).size:=by omega
 obtain⟨x,hx⟩:∃x,(bs s)[0]=x:=⟨_,rfl⟩
 have aw:s.head?=some x:=by
  cases s with
  |nil=>simp at h9
  |cons y s=>exact congrArg some hx
 have ap:=yC s 1 5;have aq:=yC s 5 9;rw [show 5 - 1=4 from rfl] at ap;rw [show 9 - 5=4 from rfl] at aq;have a3:((s.drop 1).take 4).length=4:=by rw [N7,U3];omega
 have a2:((s.drop 5).take 4).length=4:=by rw [N7,U3];omega
 have af:vY s=if 1000<yy ((s.drop 5).take 4)∨s.length<9+yy ((s.drop 5).take 4)then(((0,0),[]),0)
  else if zx ((((s.head?.getD 0).toNat:Int),yy ((s.drop 1).take 4)),(s.drop 9).take (yy ((s.drop 5).take 4)))=false then(((0,0),[]),0)
  else(((((s.head?.getD 0).toNat:Int),yy ((s.drop 1).take 4)),(s.drop 9).take (yy ((s.drop 5).take 4))),9+yy ((s.drop 5).take 4)):=by
  unfold vY;rw [if_neg h9]
 rw [aw] at af;simp only [Option.getD_some] at af;have ac:=λW=>ql ((s.drop 1).take 4) (by omega) W
 have ae:=λW=>ql ((s.drop 5).take 4) (by omega) W
 rw [xf a3] at ac;rw [xf a2] at ae;have a7:=xx ((s.drop 5).take 4)
 generalize(s.drop 1).take 4=d1 at*
 generalize(s.drop 5).take 4=d2 at*
 generalize yy d1=c at*
 generalize yy d2=n at*
 have au:=yC s 9 (9+n);rw [show 9+n - 9=n by omega] at au;have a6:IntKind.i64.wrap (x.toNat:Int)=x.toNat:=by have:=x.toNat_lt;rw [N8];omega
 have a9:IntKind.i64.wrap (n:Int)=n:=by rw [N8];omega
 have a5:IntKind.i64.wrap (9+(n:Int))=9+n:=by rw [N8];omega
 replace ac:=hid ac;replace ae:=hid ae;replace aw:=hid aw
 by_cases h1:1000<n
 ·rw [if_pos (.inl h1)] at af
  rw [af];unfold JR y7;have t1:decide ((1000:Int)<(n:Int))=true:=by simp;omega
  replace ai:=hid ai;replace af:=hid af
  go_enter func211,ntmps211
  go_wp2_with fail
  refine(ac.out _).mono ?_;rintro e w1⟨rfl,aj⟩;have k1:Blk w1 w.heap.size #[.int .i64 0,.int .u32 0,.string ⟨#[]⟩] 78:=Blk.call (bkx) aj;have ad:Below w.heap.size w w1:=pbx;go_wp2_with fail
  refine(ae.out _).mono ?_;rintro e w2⟨rfl,ag⟩;have k2:=k1.call ag;have ah:=zh ad ag;have c2:=k2.cell;have f2:=k2.frozen;have l2:=k2.lt;clear k1 ad aj ag;have rr:=(((k2.set (o:=0) (.int .i64 0)).set (o:=1) (.int .u32 0)).set (o:=2) (.string ⟨#[]⟩)).cell;go_wp2;exact bodyPost_ret (v:=.tuple #[.agg #[.int .i64 0,.int .u32 0,.string ⟨#[]⟩],.int .i64 0]) (by simp [results,Tryz.results211,go_sem,rr]) rfl ⟨rfl,zn (zn (zn ah (by simp) _) (by simp) _) (by simp) _⟩
 have t1:decide ((1000:Int)<(n:Int))=false:=by simp;omega
 by_cases h2:s.length<9+n
 ·rw [if_pos (.inr h2)] at af
  rw [af];unfold JR y7;have t2:decide (((bs s).size:Int)<9+(n:Int))=true:=by rw [ai];simp;omega
  replace ai:=hid ai;replace af:=hid af
  go_enter func211,ntmps211
  go_wp2_with fail
  refine(ac.out _).mono ?_;rintro e w1⟨rfl,aj⟩;have k1:Blk w1 w.heap.size #[.int .i64 0,.int .u32 0,.string ⟨#[]⟩] 78:=Blk.call (bkx) aj;have ad:Below w.heap.size w w1:=pbx;go_wp2_with fail
  refine(ae.out _).mono ?_;rintro e w2⟨rfl,ag⟩;have k2:=k1.call ag;have ah:=zh ad ag;have c2:=k2.cell;have f2:=k2.frozen;have l2:=k2.lt;clear k1 ad aj ag;have rr:=(((k2.set (o:=0) (.int .i64 0)).set (o:=1) (.int .u32 0)).set (o:=2) (.string ⟨#[]⟩)).cell;go_wp2;exact bodyPost_ret (v:=.tuple #[.agg #[.int .i64 0,.int .u32 0,.string ⟨#[]⟩],.int .i64 0]) (by simp [results,Tryz.results211,go_sem,rr]) rfl ⟨rfl,zn (zn (zn ah (by simp) _) (by simp) _) (by simp) _⟩
 rw [if_neg (by omega)] at af
 have t2:decide (((bs s).size:Int)<9+(n:Int))=false:=by rw [ai];simp;omega
 have y1:9+(n:Int)<=((bs s).size:Int):=by omega
 have y0:(9:Int)<=9+(n:Int):=by omega
 have a8:(9+(n:Int)).toNat=9+n:=by omega
 generalize(s.drop 9).take n=d at*
 have aa:=λW=>vG (x.toNat:Int) c d W
 replace ai:=hid ai
 cases hr:zx (((x.toNat:Int),c),d)
 ·rw [if_pos hr] at af
  rw [hr] at aa;rw [af];unfold JR y7;replace af:=hid af;replace aa:=hid aa
  go_enter func211,ntmps211
  go_wp2_with fail
  refine(ac.out _).mono ?_;rintro e w1⟨rfl,aj⟩;have k1:Blk w1 w.heap.size #[.int .i64 0,.int .u32 0,.string ⟨#[]⟩] 78:=Blk.call (bkx) aj;have ad:Below w.heap.size w w1:=pbx;go_wp2_with fail
  refine(ae.out _).mono ?_;rintro e w2⟨rfl,ag⟩;have k2:=k1.call ag;have ah:=zh ad ag;have c2:=k2.cell;have f2:=k2.frozen;have l2:=k2.lt;clear k1 ad aj ag;go_wp2_with fail
  apply Ju (Wp:=λw'=>Below w2.heap.size w2 w'/\Blk w' w2.heap.size #[.int .i64 (x.toNat:Int),.int .u32 c,.string (bs d)] 78)
  case h=>
   go_region_with fail
   all_goals go_simp
   all_goals exact Jt ⟨pbx,bkx⟩
  case' h2=>
  rintro w3⟨ao,an⟩;have a1:=an.cell;have k3:=k2.call ao;clear c2 f2 l2 k2;go_wp2_with fail
  refine(aa.out _).mono ?_;rintro e w4⟨rfl,al⟩;have ar:=an.call al;have ak:=k3.call al;have am:=zh (zh ah ao) al;have ax:=ar.cell;have ay:=ak.cell;have a0:=ak.frozen;have az:=ak.lt;have rr:=(((ak.set (o:=0) (.int .i64 0)).set (o:=1) (.int .u32 0)).set (o:=2) (.string ⟨#[]⟩)).cell;go_wp2;exact bodyPost_ret (v:=.tuple #[.agg #[.int .i64 0,.int .u32 0,.string ⟨#[]⟩],.int .i64 0]) (by simp [results,Tryz.results211,go_sem,rr]) rfl ⟨rfl,zn (zn (zn am (by simp) _) (by simp) _) (by simp) _⟩
 rw [if_neg (by simp [hr])] at af
 rw [hr] at aa;rw [af];unfold JR y7;replace af:=hid af;replace aa:=hid aa
 go_enter func211,ntmps211
 go_wp2_with fail
 refine(ac.out _).mono ?_;rintro e w1⟨rfl,aj⟩;have k1:Blk w1 w.heap.size #[.int .i64 0,.int .u32 0,.string ⟨#[]⟩] 78:=Blk.call (bkx) aj;have ad:Below w.heap.size w w1:=pbx;go_wp2_with fail
 refine(ae.out _).mono ?_;rintro e w2⟨rfl,ag⟩;have k2:=k1.call ag;have ah:=zh ad ag;have c2:=k2.cell;have f2:=k2.frozen;have l2:=k2.lt;clear k1 ad aj ag;go_wp2_with fail
 apply Ju (Wp:=λw'=>Below w2.heap.size w2 w'/\Blk w' w2.heap.size #[.int .i64 (x.toNat:Int),.int .u32 c,.string (bs d)] 78)
 case h=>
  go_region_with fail
  all_goals go_simp
  all_goals exact Jt ⟨pbx,bkx⟩
 case' h2=>
 rintro w3⟨ao,an⟩;have a1:=an.cell;have k3:=k2.call ao;clear c2 f2 l2 k2;go_wp2_with fail
 refine(aa.out _).mono ?_;rintro e w4⟨rfl,al⟩;have ar:=an.call al;have ak:=k3.call al;have am:=zh (zh ah ao) al;have ax:=ar.cell;have ay:=ak.cell;have a0:=ak.frozen;have az:=ak.lt;have rr:=(((ak.set (o:=0) (.int .i64 x.toNat)).set (o:=1) (.int .u32 c)).set (o:=2) (.string (bs d))).cell;go_wp2;exact bodyPost_ret (v:=.tuple #[.agg #[.int .i64 x.toNat,.int .u32 c,.string (bs d)],.int .i64 (9+(n:Int))]) (by simp [results,Tryz.results211,go_sem,rr]) rfl ⟨rfl,zn (zn (zn am (by simp) _) (by simp) _) (by simp) _⟩
theorem JS:∀(n:Nat)(s:List UInt8)(l:List zA),yX n s=some l->l.length=n
 |0,s,l,h=>by
  unfold yX at h
  split at h
  ·cases h;rfl
  cases h
 |n+1,s,l,h=>by
  unfold yX at h
  split at h
  ·cases h
  cases hu:yX n (s.drop (vY s).2)with
  |none=>rw [hu] at h;cases h
  |some l'=>
   rw [hu] at h
   cases h
   simp [JS n _ l' hu]
def Y6(r:List zA×Int)(w:World)(e:Ending)(w':World):Prop:=
 ∃v,e=.returned (.tuple #[v,.int .i64 r.2])/\Below w.heap.size w w'/\Row w' 78 3 v r.1.length (r.1.flatMap zg)/\∀g,v.ownBlock=some g->w.heap.size<=g
theorem zah(s:List UInt8)(hl:s.length<=1073741824)(w:World):Calls prog 159 #[.string (bs s)] w (Y6 (jR s) w):=by
 have am:=zL s
 cases hs:s with
 |nil=>
  subst hs;have hp:jR []=([],101):=rfl;rw [hp];have t0:decide (((bs []).size:Int)<1)=true:=by rw [am];simp
  replace am:=hid am;replace hp:=hid hp
  go_enter func159,ntmps159
  go_wp2;go_ret2
  exact⟨_,rfl,N2 _ _,z7 _ _ _,by simp [Value.ownBlock]⟩
 |cons b r0=>
  have hp:jR (b::r0)=if 64<b.toNat then([],101)else(match yX b.toNat r0 with|none=>(([]:List zA),(101:Int))|some l=>(l,0)):=rfl
  rw [← hs] at hp⊢;have t0:decide (((bs s).size:Int)<1)=false:=by rw [am,hs];simp;omega
  have a6:0<(bs s).size:=by rw [am,hs];simp
  obtain⟨x,hx⟩:∃x,(bs s)[0]=x:=⟨_,rfl⟩
  have a3:x=b:=by
   subst hs;rw [← hx];rfl
  subst a3
  by_cases h64:64<x.toNat
  ·rw [if_pos h64] at hp
   rw [hp];have t1:decide ((64:Int)<(x.toNat:Int))=true:=by simp;omega
   replace am:=hid am;replace hp:=hid hp;replace hs:=hid hs
   go_enter func159,ntmps159
   go_wp2;go_ret2
   exact⟨_,rfl,N2 _ _,z7 _ _ _,by simp [Value.ownBlock]⟩
  rw [if_neg h64] at hp
  have t1:decide ((64:Int)<(x.toNat:Int))=false:=by simp;omega
  have y1:(1:Int)<=((bs s).size:Int):=by omega
  have ax:(bs s).extract 1 (bs s).size=bs r0:=by rw [ju,hs];rfl
  have a2:IntKind.i64.wrap (x.toNat:Int)=x.toNat:=by rw [N8];omega
  have a7:r0.length<=1073741824:=by rw [hs] at hl;simp at hl;omega
  obtain⟨n,a5⟩:∃n,x.toNat=n:=⟨_,rfl⟩;rw [a5] at h64 hp t1 a2;have hn:n<=64:=by omega
  replace am:=hid am;replace hs:=hid hs;replace hp:=hid hp
  go_enter func159,ntmps159
  go_wp2
  go_loopw [4,5,21] (λp4 p5 p21 wr=>∃(k:Nat)(acc:List zA)(r:List UInt8),k<=n/\p21=.int .i64 k/\p5=.string (bs r)/\r.length<=r0.length/\acc.length=k/\yX n r0=(yX (n - k) r).map (acc++·)/\Row wr 78 3 p4 acc.length (acc.flatMap zg)/\(∀g,p4.ownBlock=some g->w.heap.size<=g)/\Below w.heap.size w wr) (λ_ _ p21 _=>n - (intOf p21).toNat)
  case atStart=>exact⟨0,[],r0,Nat.zero_le _,rfl,rfl,N0 _,rfl,by simp,z7 _ _ _,by simp [Value.ownBlock],N2 _ _⟩
  case round=>
   obtain⟨k,acc,r,hk,rfl,rfl,hr,aj,ac,aa,ag,ar⟩:=hrel;clear ax y1
   by_cases hlt:k<n
   ·have ap:=λW=>zgw r (by omega) W
    have ay:=zd9 r;have aq:=zL r
    have ai:yX (n - k) r=if(vY r).2=0 then none else(yX (n - (k+1)) (r.drop (vY r).2)).map ((vY r).1::·):=by
     rw [show n - k=(n - (k+1))+1 by omega];rfl
    obtain⟨⟨⟨⟨mi,mc⟩,md⟩,m⟩,hm⟩:∃q,vY r=q:=⟨_,rfl⟩;rw [hm] at ap ay ai;unfold JR y7 at ap;simp only at ap ay ai;obtain⟨ra,rn,rc,rfl⟩:=aa.shape;replace ap:=hid ap;replace hm:=hid hm;replace ag:=hid ag;replace aj:=hid aj
    by_cases hm0:m=0
    ·subst hm0
     rw [if_pos rfl] at ai;rw [ai] at ac;have ad:=hp.out;rw [ac] at ad;have t2:((0:Int)==0)=true:=rfl;replace aa:=hid aa;replace ai:=hid ai;replace ac:=hid ac;replace ad:=hid ad;replace aq:=hid aq;go_wp2_with fail
     refine(ap.out _).mono ?_;rintro e w1⟨rfl,au⟩;go_wp2;go_ret2
     rw [ad.out];exact⟨_,rfl,zi (zh ar au) _,z7 _ _ _,by simp [Value.ownBlock]⟩
    rw [if_neg hm0] at ai
    have t2:((m:Int)==0)=false:=by simpa using hm0
    have y1:(m:Int)<=((bs r).size:Int):=by omega
    have ax:=ju r m
    have ao:yX n r0=(yX (n - (k+1)) (r.drop m)).map ((acc++ [((mi,mc),md)])++·):=by
     rw [ac,ai];cases yX (n - (k+1)) (r.drop m)<;>simp
    have a4:(r.drop m).length<=r0.length:=by simp;omega
    generalize r.drop m=r' at*
    replace ai:=hid ai;replace ac:=hid ac;replace ao:=hid ao;replace aq:=hid aq;go_wp2_with fail
    refine(ap.out _).mono ?_;rintro e w1⟨rfl,au⟩;have aw:Below wr.heap.size wr (w1.alloc (.cells #[.int .i64 mi,.int .u32 mc,.string (bs md)] 78)):=zi au _;have ah:=aa.below aw;obtain⟨v',W4,al,ae,a0,af⟩:=zQ zbD (ah.below ((N2 _ _).alloc (N0 _) (.cells #[.int .i64 mi,.int .u32 mc,.string (bs md)] 78))) (jP (n:=1) (size:=3) (cap:=1) (Blk.new (w:=w1.alloc (.cells #[.int .i64 mi,.int .u32 mc,.string (bs md)] 78)) (cs:=#[.int .i64 mi,.int .u32 mc,.string (bs md)]) (t:=78) rfl) rfl (N0 1)) (jv [((mi,mc),md)]) (by have:=aj.out;omega) 42;obtain⟨sa,sm,sc,rfl⟩:=ae.shape;have a1:(w1.alloc (.cells #[.int .i64 mi,.int .u32 mc,.string (bs md)] 78)).heap.size=w1.heap.size+1:=by simp
    rw [a1] at al;replace ae:=hid ae;replace af:=hid af;replace ah:=hid ah;replace aa:=hid aa;replace al:=hid al
    go_wp2_with (at_builtin
                 refine zw rfl _ _ _ rfl rfl rfl al.out ?_)
    go_roundw
    case rel=>
     have ak:=zh ar aw;refine⟨k+1,acc++ [((mi,mc),md)],r',by omega,by go_num,rfl,a4,by simp [aj.out],ao.out,?_,λg hg=>?_,?_⟩
     ·rw [N1,U2,U5];exact ae.out
     ·have h5:=af.out
      rw [hg] at h5
      rcases h5 with h|h
      ·exact ag.out g h.symm
      have:=ak.size;simp at h;omega
     exact(ak.alloc (ak.size) _).grown a0 (by have:=ak.size;simp;omega) (λj hj=>ag.out j hj)
    case measure=>simp [intOf];omega
   obtain rfl:k=n:=by omega
   have aq:(bs r).toList.isEmpty=r.isEmpty:=by rw [yQ]
   rw [show k - k=0 by omega] at ac;have az:yX 0 r=if r=[] then some [] else none:=rfl
   rw [az] at ac;obtain⟨ra,rn,rc,rfl⟩:=aa.shape
   by_cases hre:r=[]
   ·rw [if_pos hre] at ac
    have ad:=hp.out;rw [ac] at ad;have an:jR s=(acc,0):=by rw [ad];simp
    rw [show r.isEmpty=true by simp [hre]] at aq;replace aa:=hid aa;replace ac:=hid ac;replace hre:=hid hre;replace ad:=hid ad;replace an:=hid an;go_wp2;go_ret2
    rw [an.out];exact⟨_,rfl,ar,aa.out,ag⟩
   rw [if_neg hre] at ac
   have ad:=hp.out;rw [ac] at ad;rw [show r.isEmpty=false by simp [hre]] at aq;replace aa:=hid aa;replace ac:=hid ac;replace hre:=hid hre;replace ad:=hid ad;go_wp2;go_ret2
   rw [ad.out];exact⟨_,rfl,ar,z7 _ _ _,by simp [Value.ownBlock]⟩
def Ja(r:jH×Int)(w:World)(e:Ending)(w':World):Prop:=
 ∃mv,e=.returned (.tuple #[ZG r.1 mv,.int .i64 r.2])/\Below w.heap.size w w'/\Row w' 78 3 mv r.1.msgs.length (r.1.msgs.flatMap zg)/\∀g,mv.ownBlock=some g->w.heap.size<=g
def zkr:jH:=⟨0,0,0,[]⟩
theorem Zm {w w':World}(hb:Below w.heap.size w w'):Ja (zkr,140) w (.returned (.tuple #[.agg #[.int .i64 0,.int .u32 0,.int .i64 0,.slice none 0 0],.int .i64 140])) w':=
 ⟨.slice none 0 0,rfl,hb,z7 _ _ _,by simp [Value.ownBlock]⟩
theorem zgx(s:List UInt8)(w:World):Calls prog 161 #[.string (bs s)] w (Ja (jz s) w):=by
 have ap:=zL s
 by_cases hbad:s.length<6∨4000<s.length
 ·have hd:jz s=(zkr,140):=by unfold jz;rw [if_pos hbad];rfl
  rw [hd];replace hd:=hid hd
  by_cases h6:s.length<6
  have t0:decide (((bs s).size:Int)<6)=true:=by rw [ap];simp;omega
  rotate_left
  have t0:decide (((bs s).size:Int)<6)=false:=by rw [ap];simp;omega
  have t1:decide ((4000:Int)<((bs s).size:Int))=true:=by rw [ap];simp;omega
  all_goals
   replace ap:=hid ap;clear hbad
   go_enter func161,ntmps161
   go_wp2;exact bodyPost_ret (v:=.tuple #[.agg #[.int .i64 0,.int .u32 0,.int .i64 0,.slice none 0 0],.int .i64 140]) (by simp [results,Tryz.results161,go_sem]) rfl (Zm (pbx))
 have t0:decide (((bs s).size:Int)<6)=false:=by rw [ap];simp;omega
 have t1:decide ((4000:Int)<((bs s).size:Int))=false:=by rw [ap];simp;omega
 have b6:(6:Int)<=((bs s).size:Int):=by omega
 have b5:(5:Int)<=((bs s).size:Int):=by omega
 have bf:(5:Int)<((bs s).size:Int):=by omega
 have c5:¬(bs s).size<5:=by omega
 have c6:¬(bs s).size<6:=by omega
 have bj:0<(bs s).size:=by omega
 have bh:5<(bs s).size:=by omega
 obtain⟨x0,be⟩:∃x,(bs s)[0]=x:=⟨_,rfl⟩;obtain⟨x5,a9⟩:∃x,(bs s)[5]=x:=⟨_,rfl⟩;have a2:s[0]?=some x0:=by rw [← be];exact N3 (by omega)
 have a1:s[5]?=some x5:=by rw [← a9];exact N3 (by omega)
 have a3:s.head?=some x0:=by rw [List.head?_eq_getElem?];exact a2
 have aw:(s.drop 5).head?=some x5:=by rw [List.head?_drop];exact a1
 have bb:=yC s 1 5;rw [show 5 - 1=4 from rfl] at bb;have bk:=ju s 6;have bd:((s.drop 1).take 4).length=4:=by rw [N7,U3];omega
 have bg:(s.drop 6).length<=4000:=by rw [U3];omega
 have hd:jz s=if(jR (s.drop 6)).2≠0 then(zkr,140)else if(jC ⟨(s.head?.getD 0).toNat,yy ((s.drop 1).take 4),((s.drop 5).head?.getD 0).toNat,(jR (s.drop 6)).1⟩)=(s,0)then(⟨(s.head?.getD 0).toNat,yy ((s.drop 1).take 4),((s.drop 5).head?.getD 0).toNat,(jR (s.drop 6)).1⟩,0)else(zkr,140):=by
  unfold jz;rw [if_neg hbad];rfl
 rw [a3,aw] at hd;simp only [Option.getD_some] at hd;have ai:=λW=>ql ((s.drop 1).take 4) (by omega) W
 rw [xf bd] at ai;have ar:=λW=>zah (s.drop 6) (by omega) W
 have az:(jR (s.drop 6)).1.length<=1073741824:=by
  unfold jR
  split
  ·simp
  split
  ·simp
  split
  ·simp
  rename_i hu;rw [JS _ _ _ hu];omega
 unfold Y6 at ar
 generalize(s.drop 1).take 4=d1 at*
 generalize s.drop 6=d6 at*
 generalize yy d1=n at*
 generalize hug:jR d6=U at*
 obtain⟨l,er⟩:=U;simp only at ar hd az;have ba:IntKind.i64.wrap (x0.toNat:Int)=x0.toNat:=by have:=x0.toNat_lt;rw [N8];omega
 have bc:IntKind.i64.wrap (x5.toNat:Int)=x5.toNat:=by have:=x5.toNat_lt;rw [N8];omega
 have ae:=λmv W hW=>YR ⟨x0.toNat,n,x5.toNat,l⟩ mv W hW az
 unfold ZG at ae;simp only at ae;replace ai:=hid ai;replace ar:=hid ar;replace a3:=hid a3;replace aw:=hid aw;replace a2:=hid a2;replace a1:=hid a1;replace hug:=hid hug;clear hbad
 by_cases he:er=0
 ·subst he
  rw [if_neg (by simp)] at hd
  generalize hEe:(jC ⟨x0.toNat,n,x5.toNat,l⟩)=E9 at*
  obtain⟨af,ee⟩:=E9;simp only at ae;have hq:=zfa af s;replace ap:=hid ap;replace hEe:=hid hEe;replace ae:=hid ae
  by_cases hee:ee=0
  ·subst hee
   have t3:((0:Int) !=0)=false:=rfl
   by_cases hag:af=s
   ·subst hag
    rw [if_pos rfl] at hd;rw [hd];rw [show decide (af=af)=true by simp] at hq;replace hd:=hid hd;have am:∀mv W',Below w.heap.size w W'->Row W' 78 3 mv l.length (l.flatMap zg)->(∀g,mv.ownBlock=some g->w.heap.size<=g)->Ja (⟨x0.toNat,n,x5.toNat,l⟩,0) w (.returned (.tuple #[.agg #[.int .i64 (x0.toNat:Int),.int .u32 n,.int .i64 (x5.toNat:Int),mv],.int .i64 0])) W':=λmv W' h1 h2 h3=>⟨mv,rfl,h1,h2,h3⟩
    replace am:=hid am
    go_enter func161,ntmps161
    go_wp2_with fail
    refine(ai.out _).mono ?_;rintro e w1⟨rfl,ax⟩;have k1:Blk w1 w.heap.size #[.int .i64 0,.int .u32 0,.int .i64 0,.slice none 0 0] 241:=Blk.call (bkx) ax;have ad:Below w.heap.size w w1:=pbx;go_wp2_with fail
    refine(ar.out _).mono ?_;rintro e w2⟨lv,rfl,al,ac,aq⟩;have k2:=k1.call al;have ag:=zh ad al;have c2:=k2.cell;have f2:=k2.frozen;have l2:=k2.lt;clear k1;obtain⟨la,ln,lc,rfl⟩:=ac.shape;go_wp2_with fail
    apply Ju (Wp:=λw'=>Below w2.heap.size w2 w'/\Blk w' w2.heap.size #[.int .i64 (x0.toNat:Int),.int .u32 n,.int .i64 (x5.toNat:Int),.slice la ln lc] 241)
    case h=>
     go_region_with fail
     all_goals go_simp
     all_goals exact Jt ⟨pbx,bkx⟩
    case' h2=>
    rintro w3⟨ao,au⟩;have a8:=au.cell;have k3:=k2.call ao;have aa:=ac.below ao;clear c2 f2 l2 k2;go_wp2_with fail
    refine(ae.out _ _ aa.src).mono ?_;rintro e w4⟨rfl,aj⟩;have ay:=au.call aj;have ah:=k3.call aj;have ak:=aa.below aj;have an:=zh (zh ag ao) aj;have a4:=ay.cell;have a5:=ah.cell;have a7:=ah.frozen;have a6:=ah.lt;have rr:=((((ah.set (o:=0) (.int .i64 x0.toNat)).set (o:=1) (.int .u32 n)).set (o:=2) (.int .i64 x5.toNat)).set (o:=3) (.slice la ln lc)).cell;have a0:∀g,(Value.slice la ln lc).ownBlock=some g->g≠w.heap.size:=λg hg=>ak.ne_blk ah (by decide) hg
    have bi:=ad.size;go_wp2;refine bodyPost_ret (v:=.tuple #[.agg #[.int .i64 x0.toNat,.int .u32 n,.int .i64 x5.toNat,.slice la ln lc],.int .i64 0]) (by simp [results,Tryz.results161,go_sem,rr]) rfl (am.out _ _ (zn (zn (zn (zn an (by simp) _) (by simp) _) (by simp) _) (by simp) _) (ak.kept (λg hg=>?_)) (λg hg=>by have:=aq g hg;omega));exact(N4 _ _ _ _ (a0 g hg)).trans ((N4 _ _ _ _ (a0 g hg)).trans ((N4 _ _ _ _ (a0 g hg)).trans (N4 _ _ _ _ (a0 g hg))))
   rw [if_neg (by simp [hag])] at hd
   rw [hd];rw [show decide (af=s)=false by simpa using hag] at hq;replace hd:=hid hd;replace hag:=hid hag
   go_enter func161,ntmps161
   go_wp2_with fail
   refine(ai.out _).mono ?_;rintro e w1⟨rfl,ax⟩;have k1:Blk w1 w.heap.size #[.int .i64 0,.int .u32 0,.int .i64 0,.slice none 0 0] 241:=Blk.call (bkx) ax;have ad:Below w.heap.size w w1:=pbx;go_wp2_with fail
   refine(ar.out _).mono ?_;rintro e w2⟨lv,rfl,al,ac,aq⟩;have k2:=k1.call al;have ag:=zh ad al;have c2:=k2.cell;have f2:=k2.frozen;have l2:=k2.lt;clear k1;obtain⟨la,ln,lc,rfl⟩:=ac.shape;go_wp2_with fail
   apply Ju (Wp:=λw'=>Below w2.heap.size w2 w'/\Blk w' w2.heap.size #[.int .i64 (x0.toNat:Int),.int .u32 n,.int .i64 (x5.toNat:Int),.slice la ln lc] 241)
   case h=>
    go_region_with fail
    all_goals go_simp
    all_goals exact Jt ⟨pbx,bkx⟩
   case' h2=>
   rintro w3⟨ao,au⟩;have a8:=au.cell;have k3:=k2.call ao;have aa:=ac.below ao;clear c2 f2 l2 k2;go_wp2_with fail
   refine(ae.out _ _ aa.src).mono ?_;rintro e w4⟨rfl,aj⟩;have ay:=au.call aj;have ah:=k3.call aj;have ak:=aa.below aj;have an:=zh (zh ag ao) aj;have a4:=ay.cell;have a5:=ah.cell;have a7:=ah.frozen;have a6:=ah.lt;have rr:=((((ah.set (o:=0) (.int .i64 0)).set (o:=1) (.int .u32 0)).set (o:=2) (.int .i64 0)).set (o:=3) (.slice none 0 0)).cell;go_wp2;exact bodyPost_ret (v:=.tuple #[.agg #[.int .i64 0,.int .u32 0,.int .i64 0,.slice none 0 0],.int .i64 140]) (by simp [results,Tryz.results161,go_sem,rr]) rfl (Zm (zn (zn (zn (zn an (by simp) _) (by simp) _) (by simp) _) (by simp) _))
  rw [if_neg (by simp [hee])] at hd
  rw [hd];have t3:(ee !=0)=true:=by simpa using hee
  replace hd:=hid hd;replace hee:=hid hee
  go_enter func161,ntmps161
  go_wp2_with fail
  refine(ai.out _).mono ?_;rintro e w1⟨rfl,ax⟩;have k1:Blk w1 w.heap.size #[.int .i64 0,.int .u32 0,.int .i64 0,.slice none 0 0] 241:=Blk.call (bkx) ax;have ad:Below w.heap.size w w1:=pbx;go_wp2_with fail
  refine(ar.out _).mono ?_;rintro e w2⟨lv,rfl,al,ac,aq⟩;have k2:=k1.call al;have ag:=zh ad al;have c2:=k2.cell;have f2:=k2.frozen;have l2:=k2.lt;clear k1;obtain⟨la,ln,lc,rfl⟩:=ac.shape;go_wp2_with fail
  apply Ju (Wp:=λw'=>Below w2.heap.size w2 w'/\Blk w' w2.heap.size #[.int .i64 (x0.toNat:Int),.int .u32 n,.int .i64 (x5.toNat:Int),.slice la ln lc] 241)
  case h=>
   go_region_with fail
   all_goals go_simp
   all_goals exact Jt ⟨pbx,bkx⟩
  case' h2=>
  rintro w3⟨ao,au⟩;have a8:=au.cell;have k3:=k2.call ao;have aa:=ac.below ao;clear c2 f2 l2 k2;go_wp2_with fail
  refine(ae.out _ _ aa.src).mono ?_;rintro e w4⟨rfl,aj⟩;have ay:=au.call aj;have ah:=k3.call aj;have ak:=aa.below aj;have an:=zh (zh ag ao) aj;have a4:=ay.cell;have a5:=ah.cell;have a7:=ah.frozen;have a6:=ah.lt;have rr:=((((ah.set (o:=0) (.int .i64 0)).set (o:=1) (.int .u32 0)).set (o:=2) (.int .i64 0)).set (o:=3) (.slice none 0 0)).cell;go_wp2;exact bodyPost_ret (v:=.tuple #[.agg #[.int .i64 0,.int .u32 0,.int .i64 0,.slice none 0 0],.int .i64 140]) (by simp [results,Tryz.results161,go_sem,rr]) rfl (Zm (zn (zn (zn (zn an (by simp) _) (by simp) _) (by simp) _) (by simp) _))
 rw [if_pos he] at hd
 rw [hd];have t2:(er !=0)=true:=by simpa using he
 replace ap:=hid ap;replace hd:=hid hd;replace he:=hid he
 go_enter func161,ntmps161
 go_wp2_with fail
 refine(ai.out _).mono ?_;rintro e w1⟨rfl,ax⟩;have k1:Blk w1 w.heap.size #[.int .i64 0,.int .u32 0,.int .i64 0,.slice none 0 0] 241:=Blk.call (bkx) ax;have ad:Below w.heap.size w w1:=pbx;go_wp2_with fail
 refine(ar.out _).mono ?_;rintro e w2⟨lv,rfl,al,ac,aq⟩;have k2:=k1.call al;have ag:=zh ad al;have c2:=k2.cell;have f2:=k2.frozen;have l2:=k2.lt;clear k1;obtain⟨la,ln,lc,rfl⟩:=ac.shape;have rr:=((((k2.set (o:=0) (.int .i64 0)).set (o:=1) (.int .u32 0)).set (o:=2) (.int .i64 0)).set (o:=3) (.slice none 0 0)).cell;go_wp2;exact bodyPost_ret (v:=.tuple #[.agg #[.int .i64 0,.int .u32 0,.int .i64 0,.slice none 0 0],.int .i64 140]) (by simp [results,Tryz.results161,go_sem,rr]) rfl (Zm (zn (zn (zn (zn ag (by simp) _) (by simp) _) (by simp) _) (by simp) _))
