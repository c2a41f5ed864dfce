/- PARTS OF THE PROOF. -/
import Derived.Test.YtofppfoioodblaaGreatDoorDA18
set_option maxRecDepth 8000
set_option maxHeartbeats 4000000
open Go.Proofs.Tryz
namespace Go.Proofs.YtofppfoioodblaaGreatDoor
open Go Go.RowKit Go.Shelf Go.Extern.Stop Go.Stop Go.Extern
attribute [local go_sem] Oper.semAt_some zB zo
def X0(r:List UInt8×Int):Value:=.tuple #[.string (bs r.1),.int .i64 r.2]
theorem zgB(B:Nat)(p:xM)(t:List Nat)(_ht:t≠ [])(ow:Own)(i:Int)(b:Nat)(hb:b<18446744073709551616)(x:List UInt8)(hx:x.length<=1000000)(w:World)(h:yI B p t ow w):
 Calls prog 248 #[.pointer (some ⟨B,0,none⟩),.int .i64 i,.int .u64 b,.string (bs x)] w (XY B (vJ p i b x).1 t ow w (X0 (vJ p i b x).2)):=by
 have aa:=λW hW=>zal B p t ow i W hW
 have ac:vJ p i b x=if z8 i=false then(p,[],2)else if(Vb (ja p i) b x).2≠0 then(p,[],(Vb (ja p i) b x).2)else({p with votes:=put i (Vb (ja p i) b x).1 p.votes},xI 118 i (le8 b++x),0):=rfl
 have h0:=h;obtain⟨hl,vb,kb,hB,hv, -⟩:=h;unfold Zr at hB
 cases hin:z8 i
 ·rw [hin] at aa
  rw [if_pos hin] at ac;rw [ac];replace ac:=hid ac;replace aa:=hid aa;replace h0:=hid h0;replace hin:=hid hin;unfold X0;clear hB hv
  go_enter func248,ntmps248
  go_wp2_with fail
  refine(aa.out _ h0.out).mono ?_;rintro e w1⟨rfl,ai⟩;obtain rfl:=ai.symm;go_wp2;go_ret2
  exact⟨rfl,ow,zp.refl _ _ _,h0.out⟩
 rw [hin] at aa
 rw [if_neg (by simp [hin])] at ac;have au:0<=i:=by simp [z8] at hin;omega
 have ae:=λW=>ziA (ja p i) b x W
 have aq:(Instr.lookup 224 (.map (some vb)) (.int .i64 i) false).run prog w=.ok (yY (ja p i)) w:=by
  rw [← zcO p i];exact hv.lookup qw Tryz.underlying224 (zcN w) i
 obtain⟨⟨⟨p1,p2,p3⟩,er⟩,ak⟩:∃r,Vb (ja p i) b x=r:=⟨_,rfl⟩;rw [ak] at ae ac;unfold zbj at ae;unfold yY at ae aq;simp only at ac ae;have e0:=hB.cell;have l0:=hB.lt;replace ak:=hid ak;replace ae:=hid ae;replace aa:=hid aa;replace h0:=hid h0;replace hin:=hid hin;clear hB hv
 by_cases he:er=0
 ·subst he
  rw [if_neg (by simp)] at ac;rw [ac];replace ac:=hid ac;have ab:=λW hW=>zam B p t (ow.cut w) i (p1,p2,p3) W hW
  have af:=λW=>zak b hb W
  unfold X0;unfold yY at ab;simp only at ab⊢;replace ab:=hid ab;replace af:=hid af;obtain⟨rc,am⟩:∃rc,xI 118 i (le8 b++x)=rc:=⟨_,rfl⟩;have ad:=λg W hc hc1=>zks 118 i au (le8 b) x g W hc hc1 (by rw [zfp];omega) hx
  rw [am] at ad⊢;replace am:=hid am;replace ad:=hid ad
  go_enter func248,ntmps248
  go_wp2_with fail
  refine(aa.out _ h0.out).mono ?_;rintro e w1⟨rfl,ai⟩;obtain rfl:=ai.symm;go_wp2_with fail
  refine(ae.out _).mono ?_;rintro e w1⟨rfl,aj⟩;clear aq;obtain⟨W2,al⟩:∃W2,W2=w1.alloc (.cells #[.int .u64 p1,.int .u64 p2,.string (bs p3)] 317):=⟨_,rfl⟩;have an:Below w.heap.size w W2:=by rw [al];exact zi aj _
  go_wp2_with fail
  rw [← al];clear al;refine(ab.out _ ((yI.loc B p t).cut h0.out an)).mono ?_;rintro e w3⟨rfl,ao,ap,h3⟩;have ag:=zp.wrap an ap;clear ap;replace h3:=hid h3;replace ag:=hid ag;go_wp2_with fail
  refine(af.out _).mono ?_;rintro e w4⟨rfl,ar⟩;go_wp2_with fail
  refine(ad.out _ _ (by simp) (by simp)).mono ?_;rintro e w5⟨rfl,aw⟩;go_wp2;go_ret2
  have ah:Below w3.heap.size w3 w5:=ze (zi ar _) aw;exact⟨rfl,ao,ag.out.trans (zp.of_below t ao ah),(yI.loc B _ t).below h3.out ah⟩
 rw [if_pos he] at ac
 rw [ac];replace ac:=hid ac;have t1:(er !=0)=true:=by simpa using he
 replace he:=hid he;unfold X0
 go_enter func248,ntmps248
 go_wp2_with fail
 refine(aa.out _ h0.out).mono ?_;rintro e w1⟨rfl,ai⟩;obtain rfl:=ai.symm;go_wp2_with fail
 refine(ae.out _).mono ?_;rintro e w1⟨rfl,aj⟩;go_wp2;go_ret2
 exact⟨rfl,ow,zp.of_below t ow (zi aj _),(yI.loc B p t).below h0.out (zi aj _)⟩
theorem zan {K:List (Int×List UInt8)}{k:Nat}(h:zH ((k:Int)+1) K=none∨10000<=k):∀n,Yo K n k=k
 |0=>rfl
 |n+1=>by
  unfold Yo;rw [if_neg]
  rcases h with h|h
  ·rw [h];simp
  omega
theorem zgC {K:List (Int×List UInt8)}{k:Nat}(h:(zH ((k:Int)+1) K).isSome=true)(hk:k<10000)(n:Nat):Yo K (n+1) k=Yo K n (k+1):=by
 rw [Yo,if_pos ⟨h,hk⟩]
theorem zfq {K:List (Int×List UInt8)} :∀(n k:Nat),k<=10000->Yo K n k<=10000
 |0,k,h=>h
 |n+1,k,h=>by
  unfold Yo
  split
  ·rename_i hh;exact zfq n (k+1) (by omega)
  exact h
def zfr(B vb kb:Nat)(K:List (Int×List UInt8))(L:Nat)(W0:World)(k:Nat)(X:Nat->Prop)(W:World):Prop:=
 Fr (λk=>k=B) W0 X W/\k<=10000/\(∃n,Yo K n k=L/\10000<=n+k)/\Blk W B #[.map (some vb),.map (some kb),.int .i64 (k:Nat),.int .i64 0] 227
theorem zfr.stab {B vb kb:Nat}{K:List (Int×List UInt8)}{L:Nat}{W0:World}(hB:B<W0.heap.size):Jc (zfr B vb kb K L W0):=
 λ_ _ _ _ _ h hm hx=>⟨h.1.step hm hx,h.2.1,h.2.2.1,h.2.2.2.kept (h.1.block hm hB)⟩
theorem zep(B:Nat)(p:xM)(t:List Nat)(ow:Own)(i:Int)(x:List UInt8)(hx:x.length<=1000000)(w:World)(h:yI B p t ow w):
 Calls prog 205 #[.pointer (some ⟨B,0,none⟩),.int .i64 i,.string (bs x)] w (XY B (zV p i x).1 t ow w (X0 (zV p i x).2)):=by
 have aa:=λW=>zaj i W
 have am:=zI x
 have ab:zV p i x=if z8 i=false∨4000<x.length then(p,[],2)else(match zH i p.known with
  |some y=>if y≠x then(p,([]:List UInt8),(91:Int))else(p,[],0)
  |none=>({p with known:=put i x p.known,length:=Yo (put i x p.known) 10000 p.length},xI 100 i x,0)):=rfl
 have h0:=h;obtain⟨hl,vb,kb,hB,hv,hk,bc,o1,o2,o3⟩:=h;unfold Zr at hB;have e0:=hB.cell;have l0:=hB.lt
 by_cases hbad:z8 i=false∨4000<x.length
 ·rw [if_pos hbad] at ab
  rw [ab];replace ab:=hid ab;unfold X0
  cases ae:z8 i
  ·rw [ae] at aa
   replace aa:=hid aa;replace h0:=hid h0;replace ae:=hid ae;replace am:=hid am;clear hB hv hk hbad;refine zl func205 rfl ?_;simp only [ntmps205,R8,Nat.reduceAdd,Nat.reduceSub];go_wp2;go_step3;go_wp2_with fail
   refine(aa.out _).mono ?_;rintro e w1⟨rfl,rfl⟩;go_wp2;rw [Exit.noGoto_ret];exact jp (v:=.tuple #[.string ⟨#[]⟩,.int .i64 2]) (by simp [results,Tryz.results205,go_sem]) ⟨rfl,ow,zp.of_below t ow (pbx),(yI.loc B p t).below h0.out (pbx)⟩
  have t0:decide ((4000:Int)<((bs x).size:Int))=true:=by rw [am];simp;rcases hbad with h|h;rw [ae] at h;cases h;omega
  rw [ae] at aa;replace aa:=hid aa;replace h0:=hid h0;replace ae:=hid ae;replace am:=hid am;clear hB hv hk hbad;refine zl func205 rfl ?_;simp only [ntmps205,R8,Nat.reduceAdd,Nat.reduceSub];go_wp2;go_step3;go_wp2_with fail
  refine(aa.out _).mono ?_;rintro e w1⟨rfl,rfl⟩;go_wp2;rw [Exit.noGoto_ret];exact jp (v:=.tuple #[.string ⟨#[]⟩,.int .i64 2]) (by simp [results,Tryz.results205,go_sem]) ⟨rfl,ow,zp.of_below t ow (pbx),(yI.loc B p t).below h0.out (pbx)⟩
 rw [if_neg hbad] at ab
 have ae:z8 i=true:=by cases h:z8 i;exact absurd (.inl h) hbad;rfl
 have bv:x.length<=4000:=by have:¬4000<x.length:=λh=>hbad (.inr h);omega
 have bl:0<=i:=by simp [z8] at ae;omega
 have t0:decide ((4000:Int)<((bs x).size:Int))=false:=by rw [am];simp;omega
 rw [ae] at aa
 have ar:∀W,Below w.heap.size w W->(Instr.lookup 225 (.map (some kb)) (.int .i64 i) true).run prog W=.ok (.tuple #[j3 ((zH i p.known).getD []),.bool (zH i p.known).isSome]) W:=λW hW=>by
  have al:=(hk.kept (hW.block kb hk.lt)).lookup_ok qw Tryz.underlying225 (Z4 W) i;rw [xO,Option.isSome_map,show((zH i p.known).map j3).getD (j3 [])=j3 ((zH i p.known).getD [])by cases zH i p.known<;>rfl] at al;exact al
 have al:=ar (w.alloc (.cells #[.pointer (some ⟨B,0,none⟩)] 92)) (pbx);unfold j3 at al;clear ar;replace aa:=hid aa;replace h0:=hid h0;replace ae:=hid ae;replace am:=hid am;clear hbad
 cases hy:zH i p.known with
 |some y=>
  rw [hy] at al ab;simp only [Option.getD_some,Option.isSome_some] at al ab;have hq:=zin y x;clear hB hv hk
  by_cases hyx:y=x
  ·rw [if_neg (by simpa using hyx)] at ab
   rw [ab];rw [show decide (y=x)=true by simpa using hyx] at hq;replace ab:=hid ab;replace hyx:=hid hyx;replace hy:=hid hy;unfold X0;refine zl func205 rfl ?_;simp only [ntmps205,R8,Nat.reduceAdd,Nat.reduceSub];go_wp2;go_step3;go_wp2_with fail
   refine(aa.out _).mono ?_;rintro e w1⟨rfl,rfl⟩;go_wp2;rw [Exit.noGoto_ret];exact jp (v:=.tuple #[.string ⟨#[]⟩,.int .i64 0]) (by simp [results,Tryz.results205,go_sem]) ⟨rfl,ow,zp.of_below t ow (pbx),(yI.loc B p t).below h0.out (pbx)⟩
  rw [if_pos (by simpa using hyx)] at ab
  rw [ab];rw [show decide (y=x)=false by simpa using hyx] at hq;replace ab:=hid ab;replace hyx:=hid hyx;replace hy:=hid hy;unfold X0;refine zl func205 rfl ?_;simp only [ntmps205,R8,Nat.reduceAdd,Nat.reduceSub];go_wp2;go_step3;go_wp2_with fail
  refine(aa.out _).mono ?_;rintro e w1⟨rfl,rfl⟩;go_wp2;rw [Exit.noGoto_ret];exact jp (v:=.tuple #[.string ⟨#[]⟩,.int .i64 91]) (by simp [results,Tryz.results205,go_sem]) ⟨rfl,ow,zp.of_below t ow (pbx),(yI.loc B p t).below h0.out (pbx)⟩
 |none=>
  rw [hy] at al ab;simp only [Option.getD_none,Option.isSome_none] at al ab;obtain⟨W1,au⟩:∃W1,W1=(w.alloc (.cells #[.pointer (some ⟨B,0,none⟩)] 92)).alloc (.cells #[.string (bs [])] 375):=⟨_,rfl⟩;have a3:Below w.heap.size w W1:=by rw [au];exact pbx
  obtain⟨o,hu,hm⟩:=(hk.kept (a3.block kb hk.lt)).update qw Tryz.underlying225 i (j3 x);rw [Y5] at hm;unfold j3 Qz at hu;have bt:=XZ kb;replace hy:=hid hy;rw [au] at hu;replace hm:=hid hm;replace hv:=hid hv;replace hk:=hid hk;refine zl func205 rfl ?_;simp only [ntmps205,R8,Nat.reduceAdd,Nat.reduceSub];go_wp2;go_step3;go_wp2_with fail
  refine(aa.out _).mono ?_;rintro e w1⟨rfl,rfl⟩;go_wp2;obtain⟨W2,aq⟩:∃W2,W2=((w.alloc (.cells #[.pointer (some ⟨B,0,none⟩)] 92)).alloc (.cells #[.string (bs [])] 375)).putObj kb o:=⟨_,rfl⟩;rw [← aq];have a0:B≠kb:=hB.ne_map hk.out;have a1:Mod (λk=>k=kb) w W2:=by rw [aq,← au];exact(Mod.of_below (λk=>k=kb) a3).thenPut rfl o
  have a6:Blk W2 B #[.map (some vb),.map (some kb),.int .i64 (p.length:Nat),.int .i64 0] 227:=hB.mod a1 a0;have a2:Blk W2 w.heap.size #[.pointer (some ⟨B,0,none⟩)] 92:=by rw [aq];exact Blk.putObj (Blk.alloc (Blk.new rfl) _) (by have:=hk.out.lt;omega) o
  have a9:zZ W2 kb Qz ((put i x p.known).map λq=>(q.1,j3 q.2)):=by rw [aq,← au];exact hm.out
  have br:w.heap.size+2<=W2.heap.size:=by rw [aq];simp
  clear aq hu hm au a3 e0 al;obtain⟨L,hL⟩:∃L,Yo (put i x p.known) 10000 p.length=L:=⟨_,rfl⟩;have bg:L<=10000:=by rw [← hL];exact zfq _ _ hl
  rw [hL] at ab;obtain⟨rc,a5⟩:∃rc,xI 100 i x=rc:=⟨_,rfl⟩;have ah:=λg W hc=>zfo 100 i bl x g W hc hx
  rw [a5] at ah ab;replace a5:=hid a5;replace ah:=hid ah
  generalize put i x p.known=K at*
  go_step3;have e2:=a6.cell;have c2:=a2.cell;go_wp2_with fail
  refine(zgA _ _).mono ?_;rintro e w3⟨rfl,rfl⟩;clear e2 c2;go_wp2_with fail
  obtain⟨W0,ao⟩:∃W0,W0=W2.alloc (.cells #[.int .i64 (p.length:Nat)] 3):=⟨_,rfl⟩;have ax:Blk W0 B #[.map (some vb),.map (some kb),.int .i64 (p.length:Nat),.int .i64 0] 227:=by rw [ao];exact a6.alloc _
  have bi:Blk W0 w.heap.size #[.pointer (some ⟨B,0,none⟩)] 92:=by rw [ao];exact a2.alloc _
  have ba:Blk W0 W2.heap.size #[.int .i64 (p.length:Nat)] 3:=by rw [ao];exact Blk.new rfl
  have ay:zZ W0 kb Qz (K.map λq=>(q.1,j3 q.2)):=by rw [ao];exact a9.kept (U4 _ _ _ a9.lt)
  have az:Mod (λk=>k=kb) w W0:=by rw [ao];exact a1.thenAlloc _
  rw [← ao];clear ao a6 a2 a9 a1;have bm:w.heap.size+2<=W0.heap.size:=by have:=ba.lt;omega
  have ak:∀D X W,W0.heap.size<=D->Fr (λk=>k=B) W0 X W->Blk W B #[.map (some vb),.map (some kb),.int .i64 (L:Nat),.int .i64 0] 227->∀w5,Below W.heap.size W w5->
   XY B (zV p i x).1 t ow w (X0 (zV p i x).2) (.returned (.tuple #[.string (bs rc),.int .i64 0])) (w5.putObj D (.deferred none)):=by
   intro D X W hD ac af w5 ap;rw [ab]
   have bb:Mod (λk=>k=B∨k=kb) w (w5.putObj D (.deferred none)):=by
    have h1:=(az.trans ac.2 (Z:=λk=>k=B∨k=kb) (λ_ _ e=>.inr e) (λ_ _ e=>.inl e)).thenCall ap;exact⟨h1.os,h1.tape,h1.output,by simpa using h1.size,λk hk hn=>(U1 (by omega)).trans (h1.block k hk hn)⟩
   have bh:=hv.out.lt;have bq:=hk.out.lt;refine⟨rfl,ow,⟨bb.mono (λk _ e=>by rcases e with e|e;subst e;rw [o1];exact Sub.rfl' t;subst e;rw [o3];exact Sub.rfl' t),λ_ _=>rfl⟩,bg,vb,kb,?_,?_,?_,bc,o1,o2,o3⟩
   ·exact(af.call ap).putObj (by omega) _
   ·exact hv.out.kept (bb.block vb bh (λe=>by rcases e with e|e;exact hB.ne_map hv.out e.symm;exact bc e))
   refine(ay.kept (ac.2.block kb ay.lt (Ne.symm a0))).kept ((U1 (by omega)).trans (ap.block kb ?_))
   have:=ac.2.size;omega
  replace ak:=hid ak;replace ab:=hid ab
  refine xm (gf:=305) (lb:=#[.pointer (some ⟨W2.heap.size,0,none⟩)]) rfl (enters_of func305 (by kernel_rfl) rfl)
   (zeo W2.heap.size p.length hl) (λ_=>rfl)
   (λk X W=>zfr B vb kb K L W0 k X W)
   (λc X W=>c=.exit 0/\Fr (λk=>k=B) W0 X W/\Blk W B #[.map (some vb),.map (some kb),.int .i64 (L:Nat),.int .i64 0] 227)
   (zfr.stab ax.lt)
   (λc _ X X' W W' h hm hx=>⟨h.1,h.2.1.step hm hx,h.2.2.kept (h.2.1.block hm ax.lt)⟩)
   (λk X W h=>ba.mod h.1.2 (by omega))
   ⟨Fr.refl _ _,hl,⟨10000,hL,by omega⟩,ax⟩
   (λk=>[(10,.int .i64 (k:Nat))]) ?assign ?body ?done ?stop
  case assign=>
   intro l' y W K' hK;rw [jf] at hK⊢
   gi_wp2
   exact hK
  case body=>
   rintro l' k y X W⟨ac,bf,⟨n,hn,bk⟩,af⟩⟨bj,an⟩ bp _;rw [jf];have bo:=ay.kept (ac.2.block kb ay.lt (Ne.symm a0));have ad:=bo.lookup_ok qw Tryz.underlying225 (Z4 W) (y:Int);rw [xO,Option.isSome_map,show((zH (y:Int) K).map j3).getD (j3 [])=j3 ((zH (y:Int) K).getD [])by cases zH (y:Int) K<;>rfl] at ad;unfold j3 Qz at ad;have bd:=bi.mod ac.2 (by omega);have c0:=bd.cell;have bu:=bd.lt;have eW:=af.cell;have fW:=af.frozen;have lW:=af.lt
   cases hlx:zH (y:Int) K with
   |none=>
    rw [hlx] at ad;simp only [Option.getD_none,Option.isSome_none] at ad;have a8:k=L:=by rw [← hn];exact(zan (.inl (by rw [an] at hlx;exact hlx)) n).symm
    subst a8;replace hlx:=hid hlx;replace an:=hid an;replace hn:=hid hn
    gi_wp2
    have aw:Mod (λ_=>False) W (W.alloc (.cells #[.string (bs [])] 375)):=Mod.alloc _ _ _;exact⟨⟨rfl,ac.mod aw (λ_ _ h=>h.elim),af.alloc _⟩,jm.of_mod aw (λ_ _ _ h=>h)⟩
   |some z=>
    rw [hlx] at ad;simp only [Option.getD_some,Option.isSome_some] at ad
    have a7:Yo K (n - 1) y=L:=by
     obtain⟨m,rfl⟩:∃m,n=m+1:=⟨n - 1,by omega⟩;rw [an] at hlx⊢;rw [← hn,zgC (by rw [show((k:Int)+1)=((k+1:Nat):Int)by omega,hlx];rfl) bj];rfl
    replace hlx:=hid hlx;replace an:=hid an;replace hn:=hid hn;replace a7:=hid a7
    gi_wp2
    have aw:Mod (λk=>k=B) W ((W.setCell ⟨B,2,none⟩ (.int .i64 (y:Nat))).alloc (.cells #[.string (bs z)] 375)):=((Mod.refl (λk=>k=B) W).thenSet (p:=⟨B,2,none⟩) rfl _).thenAlloc _;obtain rfl:=an.out;exact⟨⟨ac.mod aw (λ_ _ h=>h),by omega,⟨n - 1,a7.out,by omega⟩,(af.set (o:=2) _).alloc _⟩,jm.of_mod aw (λk hk hX e=>by have:=ac.1 k hX;have:=ax.lt;omega)⟩
  case done=>
   rintro D k X W hD bn a4⟨ac,bf,⟨n,hn,bk⟩,af⟩ ai;have be:k=10000:=a4;have a8:k=L:=by rw [← hn];exact(zan (.inr (by omega)) n).symm
   subst a8;replace hn:=hid hn;go_wp2_with fail
   refine(ah.out _ _ (by simp)).mono ?_;rintro e w5⟨rfl,ap⟩;go_wp2;rw [Exit.noGoto_ret];have ag:Below W.heap.size W w5:=ze (zi (N2 _ _) _) ap;have aj:w5.heap[D]?=some (.deferred (some [])):=(ag.block D (N5.1 ai).1).trans ai;exact jl (D:=D) (v:=.tuple #[.string (bs rc),.int .i64 0]) aj (by simp [results,Tryz.results205,go_sem]) (ak.out D X W hD ac af w5 ag)
  case stop=>
   rintro D c X W hD bn⟨rfl,ac,af⟩ ai;go_wp2_with fail
   refine(ah.out _ _ (by simp)).mono ?_;rintro e w5⟨rfl,ap⟩;go_wp2;rw [Exit.noGoto_ret];have ag:Below W.heap.size W w5:=ze (zi (N2 _ _) _) ap;have aj:w5.heap[D]?=some (.deferred (some [])):=(ag.block D (N5.1 ai).1).trans ai;exact jl (D:=D) (v:=.tuple #[.string (bs rc),.int .i64 0]) aj (by simp [results,Tryz.results205,go_sem]) (ak.out D X W hD ac af w5 ag)
theorem X2(a b:Nat)(ha:a<18446744073709551616)(hb:b<18446744073709551616):bits .or .u64 (a:Int) (b:Int)=((a|||b:Nat):Int):=by
 have hx:a|||b<2 ^ 64:=Nat.or_lt_two_pow (by omega) (by omega)
 have h1:(BitVec.ofInt 64 (a:Int)).toNat=a:=by
  rw [BitVec.ofInt_natCast,BitVec.toNat_ofNat];exact Nat.mod_eq_of_lt (by omega)
 have h2:(BitVec.ofInt 64 (b:Int)).toNat=b:=by
  rw [BitVec.ofInt_natCast,BitVec.toNat_ofNat];exact Nat.mod_eq_of_lt (by omega)
 show IntKind.u64.wrap ((BitVec.ofInt 64 (a:Int)|||BitVec.ofInt 64 (b:Int)).toNat:Int)=_
 rw [BitVec.toNat_or,h1,h2,IntKind.wrap_u64];omega
theorem Z5(d:List UInt8):vU d<4294967296:=by
 unfold vU
 split
 ·rename_i h
  have:=zir d;rw [h] at this;exact Nat.lt_of_lt_of_le this (by decide)
 omega
theorem qY {d:List UInt8}(h:d.length=4):zmo d=.tuple #[.int .u32 (vU d:Nat),.int .i64 0]:=by unfold zmo;rw [if_pos h]
theorem ziE(h l:Nat)(hh:h<4294967296)(hl:l<4294967296):bits .or .u64 (IntKind.u64.wrap ((h:Int)*4294967296)) (l:Int)=((l+4294967296*h:Nat):Int):=by
 have h3:IntKind.u64.wrap ((h:Int)*4294967296)=((h*4294967296:Nat):Int):=by rw [IntKind.wrap_u64];omega
 have h4:=Nat.two_pow_add_eq_or_of_lt (i:=32) hl h;rw [h3,X2 _ _ (by omega) (by omega)];rw [show h*4294967296=2 ^ 32*h by omega,← h4];omega
theorem zkt(h l:Nat)(hh:h<4294967296)(hl:l<4294967296):bits .or .u64 ((h:Int)*4294967296) (l:Int)=((l+4294967296*h:Nat):Int):=by
 have h3:IntKind.u64.wrap ((h:Int)*4294967296)=(h:Int)*4294967296:=by rw [IntKind.wrap_u64];omega
 rw [← h3];exact ziE h l hh hl
theorem zeq(s:List UInt8):(vV s).2=0∨(9<=(vV s).2/\(vV s).2<=s.length):=by
 unfold vV
 split
 ·exact .inl rfl
 split
 ·exact .inl rfl
 split
 ·exact .inl rfl
 right;simp only;omega
def JZ(r:zx×Nat):Value:=.tuple #[vO r.1,.int .i64 (r.2:Nat)]
theorem zgD(s:List UInt8)(hl:s.length<=1073741824)(w:World):Calls prog 211 #[.string (bs s)] w λe w'=>e=.returned (JZ (vV s))/\Below w.heap.size w w':=by
 have ah:=zI s
 by_cases h9:s.length<9
 ·have hf:vV s=(((0,0),[]),0):=by unfold vV;rw [if_pos h9]
  rw [hf];unfold JZ vO;have t0:decide (((bs s).size:Int)<9)=true:=by rw [ah];simp;omega
  replace ah:=hid ah;replace hf:=hid hf
  go_enter func211,ntmps211
  go_wp2;exact bodyPost_ret (v:=.tuple #[.agg #[.int .i64 0,.int .u32 0,.string ⟨#[]⟩],.int .i64 0]) (by simp [results,Tryz.results211,go_sem]) rfl ⟨rfl,pbx⟩
 have t0:decide (((bs s).size:Int)<9)=false:=by rw [ah];simp;omega
 have b9:(9:Int)<=((bs s).size:Int):=by omega
 have b5:(5:Int)<=((bs s).size:Int):=by omega
 have c5:¬(bs s).size<5:=by omega
 have c9:¬(bs s).size<9:=by omega
 have a4:0<(bs s).size:=by omega
 obtain⟨x,hx⟩:∃x,(bs s)[0]=x:=⟨_,rfl⟩
 have aq:s.head?=some x:=by
  cases s with
  |nil=>simp at h9
  |cons y s=>exact congrArg some hx
 have ar:=xt s 1 5;have au:=xt s 5 9;rw [show 5 - 1=4 from rfl] at ar;rw [show 9 - 5=4 from rfl] at au;have a2:((s.drop 1).take 4).length=4:=by rw [N7,U3];omega
 have ax:((s.drop 5).take 4).length=4:=by rw [N7,U3];omega
 have ae:vV s=if 1000<vU ((s.drop 5).take 4)∨s.length<9+vU ((s.drop 5).take 4)then(((0,0),[]),0)
  else if zz ((((s.head?.getD 0).toNat:Int),vU ((s.drop 1).take 4)),(s.drop 9).take (vU ((s.drop 5).take 4)))=false then(((0,0),[]),0)
  else(((((s.head?.getD 0).toNat:Int),vU ((s.drop 1).take 4)),(s.drop 9).take (vU ((s.drop 5).take 4))),9+vU ((s.drop 5).take 4)):=by
  unfold vV;rw [if_neg h9]
 rw [aq] at ae;simp only [Option.getD_some] at ae;have ab:=λW=>JX ((s.drop 1).take 4) (by omega) W
 have ad:=λW=>JX ((s.drop 5).take 4) (by omega) W
 rw [qY a2] at ab;rw [qY ax] at ad;have a3:=Z5 ((s.drop 5).take 4)
 generalize(s.drop 1).take 4=d1 at*
 generalize(s.drop 5).take 4=d2 at*
 generalize vU d1=c at*
 generalize vU d2=n at*
 have ap:=xt s 9 (9+n);rw [show 9+n - 9=n by omega] at ap;have a6:IntKind.i64.wrap (x.toNat:Int)=x.toNat:=by have:=x.toNat_lt;rw [N8];omega
 have a5:IntKind.i64.wrap (n:Int)=n:=by rw [N8];omega
 have a7:IntKind.i64.wrap (9+(n:Int))=9+n:=by rw [N8];omega
 replace ab:=hid ab;replace ad:=hid ad;replace aq:=hid aq
 by_cases h1:1000<n
 ·rw [if_pos (.inl h1)] at ae
  rw [ae];unfold JZ vO;have t1:decide ((1000:Int)<(n:Int))=true:=by simp;omega
  replace ah:=hid ah;replace ae:=hid ae
  go_enter func211,ntmps211
  go_wp2_with fail
  refine(ab.out _).mono ?_;rintro e w1⟨rfl,ai⟩;have k1:Blk w1 w.heap.size #[.int .i64 0,.int .u32 0,.string ⟨#[]⟩] 78:=Blk.call (bkx) ai;have ac:Below w.heap.size w w1:=pbx;go_wp2_with fail
  refine(ad.out _).mono ?_;rintro e w2⟨rfl,af⟩;have k2:=k1.call af;have ag:=ze ac af;have c2:=k2.cell;have f2:=k2.frozen;have l2:=k2.lt;clear k1 ac ai af;have rr:=(((k2.set (o:=0) (.int .i64 0)).set (o:=1) (.int .u32 0)).set (o:=2) (.string ⟨#[]⟩)).cell;go_wp2;exact bodyPost_ret (v:=.tuple #[.agg #[.int .i64 0,.int .u32 0,.string ⟨#[]⟩],.int .i64 0]) (by simp [results,Tryz.results211,go_sem,rr]) rfl ⟨rfl,zu (zu (zu ag (by simp) _) (by simp) _) (by simp) _⟩
 have t1:decide ((1000:Int)<(n:Int))=false:=by simp;omega
 by_cases h2:s.length<9+n
 ·rw [if_pos (.inr h2)] at ae
  rw [ae];unfold JZ vO;have t2:decide (((bs s).size:Int)<9+(n:Int))=true:=by rw [ah];simp;omega
  replace ah:=hid ah;replace ae:=hid ae
  go_enter func211,ntmps211
  go_wp2_with fail
  refine(ab.out _).mono ?_;rintro e w1⟨rfl,ai⟩;have k1:Blk w1 w.heap.size #[.int .i64 0,.int .u32 0,.string ⟨#[]⟩] 78:=Blk.call (bkx) ai;have ac:Below w.heap.size w w1:=pbx;go_wp2_with fail
  refine(ad.out _).mono ?_;rintro e w2⟨rfl,af⟩;have k2:=k1.call af;have ag:=ze ac af;have c2:=k2.cell;have f2:=k2.frozen;have l2:=k2.lt;clear k1 ac ai af;have rr:=(((k2.set (o:=0) (.int .i64 0)).set (o:=1) (.int .u32 0)).set (o:=2) (.string ⟨#[]⟩)).cell;go_wp2;exact bodyPost_ret (v:=.tuple #[.agg #[.int .i64 0,.int .u32 0,.string ⟨#[]⟩],.int .i64 0]) (by simp [results,Tryz.results211,go_sem,rr]) rfl ⟨rfl,zu (zu (zu ag (by simp) _) (by simp) _) (by simp) _⟩
 rw [if_neg (by omega)] at ae
 have t2:decide (((bs s).size:Int)<9+(n:Int))=false:=by rw [ah];simp;omega
 have y1:9+(n:Int)<=((bs s).size:Int):=by omega
 have y0:(9:Int)<=9+(n:Int):=by omega
 have a8:(9+(n:Int)).toNat=9+n:=by omega
 generalize(s.drop 9).take n=d at*
 have aa:=λW=>vS (x.toNat:Int) c d W
 replace ah:=hid ah
 cases hr:zz (((x.toNat:Int),c),d)
 ·rw [if_pos hr] at ae
  rw [hr] at aa;rw [ae];unfold JZ vO;replace ae:=hid ae;replace aa:=hid aa
  go_enter func211,ntmps211
  go_wp2_with fail
  refine(ab.out _).mono ?_;rintro e w1⟨rfl,ai⟩;have k1:Blk w1 w.heap.size #[.int .i64 0,.int .u32 0,.string ⟨#[]⟩] 78:=Blk.call (bkx) ai;have ac:Below w.heap.size w w1:=pbx;go_wp2_with fail
  refine(ad.out _).mono ?_;rintro e w2⟨rfl,af⟩;have k2:=k1.call af;have ag:=ze ac af;have c2:=k2.cell;have f2:=k2.frozen;have l2:=k2.lt;clear k1 ac ai af;go_wp2_with fail
  apply JD (Wp:=λw'=>Below w2.heap.size w2 w'/\Blk w' w2.heap.size #[.int .i64 (x.toNat:Int),.int .u32 c,.string (bs d)] 78)
  case h=>
   go_region_with fail
   all_goals go_simp
   all_goals exact JC ⟨pbx,bkx⟩
  case' h2=>
  rintro w3⟨an,am⟩;have a0:=am.cell;have k3:=k2.call an;clear c2 f2 l2 k2;go_wp2_with fail
  refine(aa.out _).mono ?_;rintro e w4⟨rfl,ak⟩;have ao:=am.call ak;have aj:=k3.call ak;have al:=ze (ze ag an) ak;have a1:=ao.cell;have aw:=aj.cell;have ay:=aj.frozen;have az:=aj.lt;have rr:=(((aj.set (o:=0) (.int .i64 0)).set (o:=1) (.int .u32 0)).set (o:=2) (.string ⟨#[]⟩)).cell;go_wp2;exact bodyPost_ret (v:=.tuple #[.agg #[.int .i64 0,.int .u32 0,.string ⟨#[]⟩],.int .i64 0]) (by simp [results,Tryz.results211,go_sem,rr]) rfl ⟨rfl,zu (zu (zu al (by simp) _) (by simp) _) (by simp) _⟩
 rw [if_neg (by simp [hr])] at ae
 rw [hr] at aa;rw [ae];unfold JZ vO;replace ae:=hid ae;replace aa:=hid aa
 go_enter func211,ntmps211
 go_wp2_with fail
 refine(ab.out _).mono ?_;rintro e w1⟨rfl,ai⟩;have k1:Blk w1 w.heap.size #[.int .i64 0,.int .u32 0,.string ⟨#[]⟩] 78:=Blk.call (bkx) ai;have ac:Below w.heap.size w w1:=pbx;go_wp2_with fail
 refine(ad.out _).mono ?_;rintro e w2⟨rfl,af⟩;have k2:=k1.call af;have ag:=ze ac af;have c2:=k2.cell;have f2:=k2.frozen;have l2:=k2.lt;clear k1 ac ai af;go_wp2_with fail
 apply JD (Wp:=λw'=>Below w2.heap.size w2 w'/\Blk w' w2.heap.size #[.int .i64 (x.toNat:Int),.int .u32 c,.string (bs d)] 78)
 case h=>
  go_region_with fail
  all_goals go_simp
  all_goals exact JC ⟨pbx,bkx⟩
 case' h2=>
 rintro w3⟨an,am⟩;have a0:=am.cell;have k3:=k2.call an;clear c2 f2 l2 k2;go_wp2_with fail
 refine(aa.out _).mono ?_;rintro e w4⟨rfl,ak⟩;have ao:=am.call ak;have aj:=k3.call ak;have al:=ze (ze ag an) ak;have a1:=ao.cell;have aw:=aj.cell;have ay:=aj.frozen;have az:=aj.lt;have rr:=(((aj.set (o:=0) (.int .i64 x.toNat)).set (o:=1) (.int .u32 c)).set (o:=2) (.string (bs d))).cell;go_wp2;exact bodyPost_ret (v:=.tuple #[.agg #[.int .i64 x.toNat,.int .u32 c,.string (bs d)],.int .i64 (9+(n:Int))]) (by simp [results,Tryz.results211,go_sem,rr]) rfl ⟨rfl,zu (zu (zu al (by simp) _) (by simp) _) (by simp) _⟩
theorem J0:∀(n:Nat)(s:List UInt8)(l:List zx),yL n s=some l->l.length=n
 |0,s,l,h=>by
  unfold yL at h
  split at h
  ·cases h;rfl
  cases h
 |n+1,s,l,h=>by
  unfold yL at h
  split at h
  ·cases h
  cases hu:yL n (s.drop (vV s).2)with
  |none=>rw [hu] at h;cases h
  |some l'=>
   rw [hu] at h
   cases h
   simp [J0 n _ l' hu]
def zao(r:List zx×Int)(w:World)(e:Ending)(w':World):Prop:=
 ∃v,e=.returned (.tuple #[v,.int .i64 r.2])/\Below w.heap.size w w'/\Row w' 78 3 v r.1.length (r.1.flatMap zh)/\∀g,v.ownBlock=some g->w.heap.size<=g
theorem zgE(s:List UInt8)(hl:s.length<=1073741824)(w:World):Calls prog 159 #[.string (bs s)] w (zao (ya s) w):=by
 have al:=zI s
 cases hs:s with
 |nil=>
  subst hs;have hp:ya []=([],101):=rfl;rw [hp];have t0:decide (((bs []).size:Int)<1)=true:=by rw [al];simp
  replace al:=hid al;replace hp:=hid hp
  go_enter func159,ntmps159
  go_wp2;go_ret2
  exact⟨_,rfl,N2 _ _,jc _ _ _,by simp [Value.ownBlock]⟩
 |cons b r0=>
  have hp:ya (b::r0)=if 64<b.toNat then([],101)else(match yL b.toNat r0 with|none=>(([]:List zx),(101:Int))|some l=>(l,0)):=rfl
  rw [← hs] at hp⊢;have t0:decide (((bs s).size:Int)<1)=false:=by rw [al,hs];simp;omega
  have a5:0<(bs s).size:=by rw [al,hs];simp
  obtain⟨x,hx⟩:∃x,(bs s)[0]=x:=⟨_,rfl⟩
  have a4:x=b:=by
   subst hs;rw [← hx];rfl
  subst a4
  by_cases h64:64<x.toNat
  ·rw [if_pos h64] at hp
   rw [hp];have t1:decide ((64:Int)<(x.toNat:Int))=true:=by simp;omega
   replace al:=hid al;replace hp:=hid hp;replace hs:=hid hs
   go_enter func159,ntmps159
   go_wp2;go_ret2
   exact⟨_,rfl,N2 _ _,jc _ _ _,by simp [Value.ownBlock]⟩
  rw [if_neg h64] at hp
  have t1:decide ((64:Int)<(x.toNat:Int))=false:=by simp;omega
  have y1:(1:Int)<=((bs s).size:Int):=by omega
  have aw:(bs s).extract 1 (bs s).size=bs r0:=by rw [yy,hs];rfl
  have a0:IntKind.i64.wrap (x.toNat:Int)=x.toNat:=by rw [N8];omega
  have a6:r0.length<=1073741824:=by rw [hs] at hl;simp at hl;omega
  obtain⟨n,az⟩:∃n,x.toNat=n:=⟨_,rfl⟩;rw [az] at h64 hp t1 a0;have hn:n<=64:=by omega
  replace al:=hid al;replace hs:=hid hs;replace hp:=hid hp
  go_enter func159,ntmps159
  go_wp2
  go_loopw [4,5,21] (λp4 p5 p21 wr=>∃(k:Nat)(acc:List zx)(r:List UInt8),k<=n/\p21=.int .i64 k/\p5=.string (bs r)/\r.length<=r0.length/\acc.length=k/\yL n r0=(yL (n - k) r).map (acc++·)/\Row wr 78 3 p4 acc.length (acc.flatMap zh)/\(∀g,p4.ownBlock=some g->w.heap.size<=g)/\Below w.heap.size w wr) (λ_ _ p21 _=>n - (intOf p21).toNat)
  case atStart=>exact⟨0,[],r0,Nat.zero_le _,rfl,rfl,N0 _,rfl,by simp,jc _ _ _,by simp [Value.ownBlock],N2 _ _⟩
  case round=>
   obtain⟨k,acc,r,hk,rfl,rfl,hr,ak,ab,aa,ag,aq⟩:=hrel;clear aw y1
   by_cases hlt:k<n
   ·have ao:=λW=>zgD r (by omega) W
    have ax:=zeq r;have ap:=zI r
    have ah:yL (n - k) r=if(vV r).2=0 then none else(yL (n - (k+1)) (r.drop (vV r).2)).map ((vV r).1::·):=by
     rw [show n - k=(n - (k+1))+1 by omega];rfl
    obtain⟨⟨⟨⟨mi,mc⟩,md⟩,m⟩,hm⟩:∃q,vV r=q:=⟨_,rfl⟩;rw [hm] at ao ax ah;unfold JZ vO at ao;simp only at ao ax ah;obtain⟨ra,rn,rc,rfl⟩:=aa.shape;replace ao:=hid ao;replace hm:=hid hm;replace ag:=hid ag;replace ak:=hid ak
    by_cases hm0:m=0
    ·subst hm0
     rw [if_pos rfl] at ah;rw [ah] at ab;have ad:=hp.out;rw [ab] at ad;have t2:((0:Int)==0)=true:=rfl;replace aa:=hid aa;replace ah:=hid ah;replace ab:=hid ab;replace ad:=hid ad;replace ap:=hid ap;go_wp2_with fail
     refine(ao.out _).mono ?_;rintro e w1⟨rfl,ar⟩;go_wp2;go_ret2
     rw [ad.out];exact⟨_,rfl,zi (ze aq ar) _,jc _ _ _,by simp [Value.ownBlock]⟩
    rw [if_neg hm0] at ah
    have t2:((m:Int)==0)=false:=by simpa using hm0
    have y1:(m:Int)<=((bs r).size:Int):=by omega
    have aw:=yy r m
    have am:yL n r0=(yL (n - (k+1)) (r.drop m)).map ((acc++ [((mi,mc),md)])++·):=by
     rw [ab,ah];cases yL (n - (k+1)) (r.drop m)<;>simp
    have a3:(r.drop m).length<=r0.length:=by simp;omega
    generalize r.drop m=r' at*
    replace ah:=hid ah;replace ab:=hid ab;replace am:=hid am;replace ap:=hid ap;go_wp2_with fail
    refine(ao.out _).mono ?_;rintro e w1⟨rfl,ar⟩;have au:Below wr.heap.size wr (w1.alloc (.cells #[.int .i64 mi,.int .u32 mc,.string (bs md)] 78)):=zi ar _;have af:=aa.below au;obtain⟨v',W4,aj,ac,ay,ae⟩:=zM zdI (af.below ((N2 _ _).alloc (N0 _) (.cells #[.int .i64 mi,.int .u32 mc,.string (bs md)] 78))) (jD (n:=1) (size:=3) (cap:=1) (Blk.new (w:=w1.alloc (.cells #[.int .i64 mi,.int .u32 mc,.string (bs md)] 78)) (cs:=#[.int .i64 mi,.int .u32 mc,.string (bs md)]) (t:=78) rfl) rfl (N0 1)) (jA [((mi,mc),md)]) (by have:=ak.out;omega) 42;obtain⟨sa,sm,sc,rfl⟩:=ac.shape;have a1:(w1.alloc (.cells #[.int .i64 mi,.int .u32 mc,.string (bs md)] 78)).heap.size=w1.heap.size+1:=by simp
    rw [a1] at aj;replace ac:=hid ac;replace ae:=hid ae;replace af:=hid af;replace aa:=hid aa;replace aj:=hid aj
    go_wp2_with (at_builtin
                 refine zv rfl _ _ _ rfl rfl rfl aj.out ?_)
    go_roundw
    case rel=>
     have ai:=ze aq au;refine⟨k+1,acc++ [((mi,mc),md)],r',by omega,by go_num,rfl,a3,by simp [ak.out],am.out,?_,λg hg=>?_,?_⟩
     ·rw [N1,U2,U5];exact ac.out
     ·have h5:=ae.out
      rw [hg] at h5
      rcases h5 with h|h
      ·exact ag.out g h.symm
      have:=ai.size;simp at h;omega
     exact(ai.alloc (ai.size) _).grown ay (by have:=ai.size;simp;omega) (λj hj=>ag.out j hj)
    case measure=>simp [intOf];omega
   obtain rfl:k=n:=by omega
   have ap:(bs r).toList.isEmpty=r.isEmpty:=by rw [vq]
   rw [show k - k=0 by omega] at ab;have a2:yL 0 r=if r=[] then some [] else none:=rfl
   rw [a2] at ab;obtain⟨ra,rn,rc,rfl⟩:=aa.shape
   by_cases hre:r=[]
   ·rw [if_pos hre] at ab
    have ad:=hp.out;rw [ab] at ad;have an:ya s=(acc,0):=by rw [ad];simp
    rw [show r.isEmpty=true by simp [hre]] at ap;replace aa:=hid aa;replace ab:=hid ab;replace hre:=hid hre;replace ad:=hid ad;replace an:=hid an;go_wp2;go_ret2
    rw [an.out];exact⟨_,rfl,aq,aa.out,ag⟩
   rw [if_neg hre] at ab
   have ad:=hp.out;rw [ab] at ad;rw [show r.isEmpty=false by simp [hre]] at ap;replace aa:=hid aa;replace ab:=hid ab;replace hre:=hid hre;replace ad:=hid ad;go_wp2;go_ret2
   rw [ad.out];exact⟨_,rfl,aq,jc _ _ _,by simp [Value.ownBlock]⟩
def Jo(r:jz×Int)(w:World)(e:Ending)(w':World):Prop:=
 ∃mv,e=.returned (.tuple #[ZS r.1 mv,.int .i64 r.2])/\Below w.heap.size w w'/\Row w' 78 3 mv r.1.msgs.length (r.1.msgs.flatMap zh)/\∀g,mv.ownBlock=some g->w.heap.size<=g
def zku:jz:=⟨0,0,0,[]⟩
theorem Zs {w w':World}(hb:Below w.heap.size w w'):Jo (zku,140) w (.returned (.tuple #[.agg #[.int .i64 0,.int .u32 0,.int .i64 0,.slice none 0 0],.int .i64 140])) w':=
 ⟨.slice none 0 0,rfl,hb,jc _ _ _,by simp [Value.ownBlock]⟩
theorem zgF(s:List UInt8)(w:World):Calls prog 161 #[.string (bs s)] w (Jo (jq s) w):=by
 have am:=zI s
 by_cases hbad:s.length<6∨4000<s.length
 ·have hd:jq s=(zku,140):=by unfold jq;rw [if_pos hbad];rfl
  rw [hd];replace hd:=hid hd
  by_cases h6:s.length<6
  have t0:decide (((bs s).size:Int)<6)=true:=by rw [am];simp;omega
  rotate_left
  have t0:decide (((bs s).size:Int)<6)=false:=by rw [am];simp;omega
  have t1:decide ((4000:Int)<((bs s).size:Int))=true:=by rw [am];simp;omega
  all_goals
   replace am:=hid am;clear hbad
   go_enter func161,ntmps161
   go_wp2;exact bodyPost_ret (v:=.tuple #[.agg #[.int .i64 0,.int .u32 0,.int .i64 0,.slice none 0 0],.int .i64 140]) (by simp [results,Tryz.results161,go_sem]) rfl (Zs (pbx))
 have t0:decide (((bs s).size:Int)<6)=false:=by rw [am];simp;omega
 have t1:decide ((4000:Int)<((bs s).size:Int))=false:=by rw [am];simp;omega
 have b6:(6:Int)<=((bs s).size:Int):=by omega
 have b5:(5:Int)<=((bs s).size:Int):=by omega
 have bi:(5:Int)<((bs s).size:Int):=by omega
 have c5:¬(bs s).size<5:=by omega
 have c6:¬(bs s).size<6:=by omega
 have bf:0<(bs s).size:=by omega
 have bj:5<(bs s).size:=by omega
 obtain⟨x0,a8⟩:∃x,(bs s)[0]=x:=⟨_,rfl⟩;obtain⟨x5,ba⟩:∃x,(bs s)[5]=x:=⟨_,rfl⟩;have a0:s[0]?=some x0:=by rw [← a8];exact N3 (by omega)
 have a2:s[5]?=some x5:=by rw [← ba];exact N3 (by omega)
 have a1:s.head?=some x0:=by rw [List.head?_eq_getElem?];exact a0
 have au:(s.drop 5).head?=some x5:=by rw [List.head?_drop];exact a2
 have a9:=xt s 1 5;rw [show 5 - 1=4 from rfl] at a9;have bh:=yy s 6;have bc:((s.drop 1).take 4).length=4:=by rw [N7,U3];omega
 have be:(s.drop 6).length<=4000:=by rw [U3];omega
 have hd:jq s=if(ya (s.drop 6)).2≠0 then(zku,140)else if(ju ⟨(s.head?.getD 0).toNat,vU ((s.drop 1).take 4),((s.drop 5).head?.getD 0).toNat,(ya (s.drop 6)).1⟩)=(s,0)then(⟨(s.head?.getD 0).toNat,vU ((s.drop 1).take 4),((s.drop 5).head?.getD 0).toNat,(ya (s.drop 6)).1⟩,0)else(zku,140):=by
  unfold jq;rw [if_neg hbad];rfl
 rw [a1,au] at hd;simp only [Option.getD_some] at hd;have af:=λW=>JX ((s.drop 1).take 4) (by omega) W
 rw [qY bc] at af;have aq:=λW=>zgE (s.drop 6) (by omega) W
 have ay:(ya (s.drop 6)).1.length<=1073741824:=by
  unfold ya
  split
  ·simp
  split
  ·simp
  split
  ·simp
  rename_i hu;rw [J0 _ _ _ hu];omega
 unfold zao at aq
 generalize(s.drop 1).take 4=d1 at*
 generalize s.drop 6=d6 at*
 generalize vU d1=n at*
 generalize hug:ya d6=U at*
 obtain⟨l,er⟩:=U;simp only at aq hd ay;have bb:IntKind.i64.wrap (x0.toNat:Int)=x0.toNat:=by have:=x0.toNat_lt;rw [N8];omega
 have bd:IntKind.i64.wrap (x5.toNat:Int)=x5.toNat:=by have:=x5.toNat_lt;rw [N8];omega
 have ac:=λmv W hW=>Y7 ⟨x0.toNat,n,x5.toNat,l⟩ mv W hW ay
 unfold ZS at ac;simp only at ac;replace af:=hid af;replace aq:=hid aq;replace a1:=hid a1;replace au:=hid au;replace a0:=hid a0;replace a2:=hid a2;replace hug:=hid hug;clear hbad
 by_cases he:er=0
 ·subst he
  rw [if_neg (by simp)] at hd
  generalize hEe:(ju ⟨x0.toNat,n,x5.toNat,l⟩)=E9 at*
  obtain⟨ae,ee⟩:=E9;simp only at ac;have hq:=zin ae s;replace am:=hid am;replace hEe:=hid hEe;replace ac:=hid ac
  by_cases hee:ee=0
  ·subst hee
   have t3:((0:Int) !=0)=false:=rfl
   by_cases hag:ae=s
   ·subst hag
    rw [if_pos rfl] at hd;rw [hd];rw [show decide (ae=ae)=true by simp] at hq;replace hd:=hid hd;have al:∀mv W',Below w.heap.size w W'->Row W' 78 3 mv l.length (l.flatMap zh)->(∀g,mv.ownBlock=some g->w.heap.size<=g)->Jo (⟨x0.toNat,n,x5.toNat,l⟩,0) w (.returned (.tuple #[.agg #[.int .i64 (x0.toNat:Int),.int .u32 n,.int .i64 (x5.toNat:Int),mv],.int .i64 0])) W':=λmv W' h1 h2 h3=>⟨mv,rfl,h1,h2,h3⟩
    replace al:=hid al
    go_enter func161,ntmps161
    go_wp2_with fail
    refine(af.out _).mono ?_;rintro e w1⟨rfl,aw⟩;have k1:Blk w1 w.heap.size #[.int .i64 0,.int .u32 0,.int .i64 0,.slice none 0 0] 241:=Blk.call (bkx) aw;have ad:Below w.heap.size w w1:=pbx;go_wp2_with fail
    refine(aq.out _).mono ?_;rintro e w2⟨lv,rfl,ak,ab,ap⟩;have k2:=k1.call ak;have ag:=ze ad ak;have c2:=k2.cell;have f2:=k2.frozen;have l2:=k2.lt;clear k1;obtain⟨la,ln,lc,rfl⟩:=ab.shape;go_wp2_with fail
    apply JD (Wp:=λw'=>Below w2.heap.size w2 w'/\Blk w' w2.heap.size #[.int .i64 (x0.toNat:Int),.int .u32 n,.int .i64 (x5.toNat:Int),.slice la ln lc] 241)
    case h=>
     go_region_with fail
     all_goals go_simp
     all_goals exact JC ⟨pbx,bkx⟩
    case' h2=>
    rintro w3⟨ao,ar⟩;have a6:=ar.cell;have k3:=k2.call ao;have aa:=ab.below ao;clear c2 f2 l2 k2;go_wp2_with fail
    refine(ac.out _ _ aa.src).mono ?_;rintro e w4⟨rfl,ai⟩;have ax:=ar.call ai;have ah:=k3.call ai;have aj:=aa.below ai;have an:=ze (ze ag ao) ai;have a7:=ax.cell;have a3:=ah.cell;have a5:=ah.frozen;have a4:=ah.lt;have rr:=((((ah.set (o:=0) (.int .i64 x0.toNat)).set (o:=1) (.int .u32 n)).set (o:=2) (.int .i64 x5.toNat)).set (o:=3) (.slice la ln lc)).cell;have az:∀g,(Value.slice la ln lc).ownBlock=some g->g≠w.heap.size:=λg hg=>aj.ne_blk ah (by decide) hg
    have bg:=ad.size;go_wp2;refine bodyPost_ret (v:=.tuple #[.agg #[.int .i64 x0.toNat,.int .u32 n,.int .i64 x5.toNat,.slice la ln lc],.int .i64 0]) (by simp [results,Tryz.results161,go_sem,rr]) rfl (al.out _ _ (zu (zu (zu (zu an (by simp) _) (by simp) _) (by simp) _) (by simp) _) (aj.kept (λg hg=>?_)) (λg hg=>by have:=ap g hg;omega));exact(N4 _ _ _ _ (az g hg)).trans ((N4 _ _ _ _ (az g hg)).trans ((N4 _ _ _ _ (az g hg)).trans (N4 _ _ _ _ (az g hg))))
   rw [if_neg (by simp [hag])] at hd
   rw [hd];rw [show decide (ae=s)=false by simpa using hag] at hq;replace hd:=hid hd;replace hag:=hid hag
   go_enter func161,ntmps161
   go_wp2_with fail
   refine(af.out _).mono ?_;rintro e w1⟨rfl,aw⟩;have k1:Blk w1 w.heap.size #[.int .i64 0,.int .u32 0,.int .i64 0,.slice none 0 0] 241:=Blk.call (bkx) aw;have ad:Below w.heap.size w w1:=pbx;go_wp2_with fail
   refine(aq.out _).mono ?_;rintro e w2⟨lv,rfl,ak,ab,ap⟩;have k2:=k1.call ak;have ag:=ze ad ak;have c2:=k2.cell;have f2:=k2.frozen;have l2:=k2.lt;clear k1;obtain⟨la,ln,lc,rfl⟩:=ab.shape;go_wp2_with fail
   apply JD (Wp:=λw'=>Below w2.heap.size w2 w'/\Blk w' w2.heap.size #[.int .i64 (x0.toNat:Int),.int .u32 n,.int .i64 (x5.toNat:Int),.slice la ln lc] 241)
   case h=>
    go_region_with fail
    all_goals go_simp
    all_goals exact JC ⟨pbx,bkx⟩
   case' h2=>
   rintro w3⟨ao,ar⟩;have a6:=ar.cell;have k3:=k2.call ao;have aa:=ab.below ao;clear c2 f2 l2 k2;go_wp2_with fail
   refine(ac.out _ _ aa.src).mono ?_;rintro e w4⟨rfl,ai⟩;have ax:=ar.call ai;have ah:=k3.call ai;have aj:=aa.below ai;have an:=ze (ze ag ao) ai;have a7:=ax.cell;have a3:=ah.cell;have a5:=ah.frozen;have a4:=ah.lt;have rr:=((((ah.set (o:=0) (.int .i64 0)).set (o:=1) (.int .u32 0)).set (o:=2) (.int .i64 0)).set (o:=3) (.slice none 0 0)).cell;go_wp2;exact bodyPost_ret (v:=.tuple #[.agg #[.int .i64 0,.int .u32 0,.int .i64 0,.slice none 0 0],.int .i64 140]) (by simp [results,Tryz.results161,go_sem,rr]) rfl (Zs (zu (zu (zu (zu an (by simp) _) (by simp) _) (by simp) _) (by simp) _))
  rw [if_neg (by simp [hee])] at hd
  rw [hd];have t3:(ee !=0)=true:=by simpa using hee
  replace hd:=hid hd;replace hee:=hid hee
  go_enter func161,ntmps161
  go_wp2_with fail
  refine(af.out _).mono ?_;rintro e w1⟨rfl,aw⟩;have k1:Blk w1 w.heap.size #[.int .i64 0,.int .u32 0,.int .i64 0,.slice none 0 0] 241:=Blk.call (bkx) aw;have ad:Below w.heap.size w w1:=pbx;go_wp2_with fail
  refine(aq.out _).mono ?_;rintro e w2⟨lv,rfl,ak,ab,ap⟩;have k2:=k1.call ak;have ag:=ze ad ak;have c2:=k2.cell;have f2:=k2.frozen;have l2:=k2.lt;clear k1;obtain⟨la,ln,lc,rfl⟩:=ab.shape;go_wp2_with fail
  apply JD (Wp:=λw'=>Below w2.heap.size w2 w'/\Blk w' w2.heap.size #[.int .i64 (x0.toNat:Int),.int .u32 n,.int .i64 (x5.toNat:Int),.slice la ln lc] 241)
  case h=>
   go_region_with fail
   all_goals go_simp
   all_goals exact JC ⟨pbx,bkx⟩
  case' h2=>
  rintro w3⟨ao,ar⟩;have a6:=ar.cell;have k3:=k2.call ao;have aa:=ab.below ao;clear c2 f2 l2 k2;go_wp2_with fail
  refine(ac.out _ _ aa.src).mono ?_;rintro e w4⟨rfl,ai⟩;have ax:=ar.call ai;have ah:=k3.call ai;have aj:=aa.below ai;have an:=ze (ze ag ao) ai;have a7:=ax.cell;have a3:=ah.cell;have a5:=ah.frozen;have a4:=ah.lt;have rr:=((((ah.set (o:=0) (.int .i64 0)).set (o:=1) (.int .u32 0)).set (o:=2) (.int .i64 0)).set (o:=3) (.slice none 0 0)).cell;go_wp2;exact bodyPost_ret (v:=.tuple #[.agg #[.int .i64 0,.int .u32 0,.int .i64 0,.slice none 0 0],.int .i64 140]) (by simp [results,Tryz.results161,go_sem,rr]) rfl (Zs (zu (zu (zu (zu an (by simp) _) (by simp) _) (by simp) _) (by simp) _))
 rw [if_pos he] at hd
 rw [hd];have t2:(er !=0)=true:=by simpa using he
 replace am:=hid am;replace hd:=hid hd;replace he:=hid he
 go_enter func161,ntmps161
 go_wp2_with fail
 refine(af.out _).mono ?_;rintro e w1⟨rfl,aw⟩;have k1:Blk w1 w.heap.size #[.int .i64 0,.int .u32 0,.int .i64 0,.slice none 0 0] 241:=Blk.call (bkx) aw;have ad:Below w.heap.size w w1:=pbx;go_wp2_with fail
 refine(aq.out _).mono ?_;rintro e w2⟨lv,rfl,ak,ab,ap⟩;have k2:=k1.call ak;have ag:=ze ad ak;have c2:=k2.cell;have f2:=k2.frozen;have l2:=k2.lt;clear k1;obtain⟨la,ln,lc,rfl⟩:=ab.shape;have rr:=((((k2.set (o:=0) (.int .i64 0)).set (o:=1) (.int .u32 0)).set (o:=2) (.int .i64 0)).set (o:=3) (.slice none 0 0)).cell;go_wp2;exact bodyPost_ret (v:=.tuple #[.agg #[.int .i64 0,.int .u32 0,.int .i64 0,.slice none 0 0],.int .i64 140]) (by simp [results,Tryz.results161,go_sem,rr]) rfl (Zs (zu (zu (zu (zu ag (by simp) _) (by simp) _) (by simp) _) (by simp) _))
