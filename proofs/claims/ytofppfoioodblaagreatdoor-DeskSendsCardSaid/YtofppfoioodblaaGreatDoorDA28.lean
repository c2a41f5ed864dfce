/- PARTS OF THE PROOF. -/
import Derived.Test.YtofppfoioodblaaGreatDoorDA27
set_option maxRecDepth 8000
set_option maxHeartbeats 4000000
open Go.Proofs.Tryz
namespace Go.Proofs.YtofppfoioodblaaGreatDoor
open Go Go.RowKit Go.Shelf Go.Extern.Stop Go.Stop Go.Extern
attribute [local go_sem] Oper.semAt_some zB zo
theorem Qk(v:Value)(hv:∃a n c,v=.slice a n c)(w:World):Calls prog 252 #[v] w λe w'=>
 e=.returned (.func (.func 304) #[] #[.pointer (some ⟨w.heap.size,0,none⟩)])/\w'=w.alloc (.cells #[v] 172):=by
 obtain⟨a,n,c,rfl⟩:=hv
 go_enter func252,ntmps252
 go_wp2;go_ret
 exact⟨rfl,rfl⟩
theorem zeD(l:List jE)(k:Nat)(x:jE)(h:l[k]?=some x)(j:Nat)(hj:j<3):(l.flatMap zN)[k*3+j]?=(zN x)[j]?:=by
 induction l generalizing k with
 |nil=>simp at h
 |cons y l ih=>
  cases k with
  |zero=>
   simp at h;subst h
   rw [List.flatMap_cons,Nat.zero_mul,Nat.zero_add,U8 (by simp [zN];omega)]
  |succ k=>
   simp at h
   have:=ih k h;rw [List.flatMap_cons,U6 (by simp [zN];omega)];rw [← this]
   congr 1
   simp [zN];omega
theorem VT(cb:Nat)(v:Value)(l:List jE)(hlen:l.length<=1073741824):
 zaF Fence.wide 2 prog 304 #[.pointer (some ⟨cb,0,none⟩)] (λx:jE=> #[yY x])
  (λ(k:Nat) x=>l[k]?=some x) (λk _=>k+1) (λk=>k=l.length)
  (λ_ W=>Blk W cb #[v] 172/\Src W v 3 l.length (l.flatMap zN)) 0:=by
 intro lp J Jx W hJ hJx hRd hY h0;obtain⟨r0,r1⟩:=hRd _ _ _ h0;have e0:=r0.cell;have hF:Fence.wide.fn 304:=trivial;have ad:Fence.wide.round=none:=rfl
 rcases r1.2 with⟨rfl,hn⟩|⟨b,off,cap,rfl,hc, -⟩
 ·obtain rfl:l=[]:=N9 hn
  clear r0 r1;refine callsIn_of_wp func304 rfl hF ?_ ad;simp only [ntmps304,R8,Nat.reduceAdd,Nat.reduceSub]
  gi_wp2
  gi_loopw [7] (λp wr=>p=.int .i64 0/\wr=W) (λp _=>0)
  case atStart=>exact⟨rfl,rfl⟩
  case round=>
   obtain⟨rfl,rfl⟩:=hrel
   gi_wp2
   go_end0
   exact⟨⟨_,rfl⟩,.inl ⟨0,_,rfl,h0⟩⟩
 clear r0 r1
 refine callsIn_of_wp func304 rfl hF ?_ ad;simp only [ntmps304,R8,Nat.reduceAdd,Nat.reduceSub]
 gi_wp2
 gi_loopw [7] (λp wr=>∃(k:Nat)(X:Nat->Prop),p=.int .i64 (k:Int)/\k<=l.length/\J k X wr) (λp _=>l.length - (intOf p).toNat)
 case atStart=>exact⟨0,_,rfl,Nat.zero_le _,h0⟩
 case round=>
  obtain⟨k,X,rfl,hk,ab⟩:=hrel;clear e0
  by_cases hlt:k<l.length
  ·obtain⟨x,hx⟩:∃x,l[k]?=some x:=⟨_,N3 hlt⟩
   obtain⟨-,r1⟩:=hRd _ _ _ ab
   rcases r1.2 with⟨h, -⟩|⟨b',off',cap',h, -,hr⟩
   ·cases h
   cases h
   have aa:∀j,j<3->wr.cell? ⟨b,off+(k*3+j),none⟩=(zN x)[j]?:=λj hj=>by
    have h1:=zeD l k x hx j hj
    cases hu:(zN x)[j]? with
    |none=>simp [zN] at hu;omega
    |some u=>exact hr _ u (h1.trans hu)
   have c0:wr.cell? ⟨b,off+k*3,none⟩=(zN x)[0]?:=aa 0 (by omega);have c1:wr.cell? ⟨b,off+k*3+1,none⟩=(zN x)[1]?:=aa 1 (by omega);have c2:wr.cell? ⟨b,off+k*3+2,none⟩=(zN x)[2]?:=aa 2 (by omega);have ac:=hY k x _ _ (hJ.alloc (.cells (zN x).toArray 317) ab) hx;obtain⟨p,b,s⟩:=x;simp only [zN] at c0 c1 c2 ac;simp only [List.getElem?_cons_zero,List.getElem?_cons_succ] at c0 c1 c2;clear aa hr r1;obtain⟨fn,tmps,assign,body,hy,hR⟩:=ac;unfold yY at hy
   gi_wp2
   refine hR.mono ?_;rintro e W'(⟨rfl,af, -⟩|⟨rfl,ae⟩)
   ·clear c0 c1 c2 hR hy
    gi_wp2
    go_roundw
    case rel=>exact⟨k+1,_,by go_num,by omega,af⟩
    case measure=>simp [intOf];omega
   gi_wp2
   refine bodyPost_ret (results_none rfl _ _ _) rfl ?_;exact⟨⟨_,rfl⟩,.inr ⟨_,ae⟩⟩
  obtain rfl:k=l.length:=by omega
  gi_wp2
  go_end0
  exact⟨⟨_,rfl⟩,.inl ⟨l.length,X,rfl,ab⟩⟩
theorem zlP {w W0 W:World}{v:Value}{xs:List Value}{n:Nat}(h:Src W0 v 3 n xs)(hb:∀a m c,v=.slice (some a) m c->a.block<w.heap.size∨n=0)(hm:Mod (λk=>k=w.heap.size) W0 W)(hw:w.heap.size<=W0.heap.size):Src W v 3 n xs:=by
 refine⟨h.1,?_⟩
 rcases h.2 with h0|⟨b,off,cap,rfl,hc,hr⟩
 ·exact .inl h0
 refine .inr ⟨b,off,cap,rfl,hc,λj u hu=>?_⟩
 rcases hb _ _ _ rfl with h1|h1
 ·have h2:b<w.heap.size:=h1
  exact(hm.cell (p:=⟨b,off+j,none⟩) (by show b<_;omega) (by show¬b=_;omega)).trans (hr j u hu)
 have:=(N6.1 hu).1
 rw [h.1,h1] at this;simp at this
def zmK(l:List jE)(rb:Nat)(W0:World)(k:Nat)(X:Nat->Prop)(W:World):Prop:=
 Fr (λk=>k=rb) W0 X W/\Blk W rb #[.bool true] 4/\(l.take k).all j9=true
theorem zmK.step {l:List jE}{rb:Nat}{W0:World}{k:Nat}{X X':Nat->Prop}{W W':World}(h:zmK l rb W0 k X W)(hr:rb<W0.heap.size)(hm:Mod X W W')(hx:∀k,X' k->X k∨(W.heap.size<=k/\k<W'.heap.size)):zmK l rb W0 k X' W':=
 ⟨h.1.step hm hx,h.2.1.kept (h.1.block hm hr),h.2.2⟩
theorem zdb(v:Value)(l:List jE)(w:World)(hv:Src w v 3 l.length (l.flatMap zN))(hl:l.length<=1000):Calls prog 250 #[v] w λe w'=>e=.returned (.bool (l.all j9))/\Below w.heap.size w w':=by
 refine zl func250 rfl ?_;simp only [ntmps250,R8,Nat.reduceAdd,Nat.reduceSub];go_wp2;go_step3;go_wp2;go_step3
 go_wp2_with (go_at_call 252;refine(Qk v (by rcases hv.2 with⟨rfl, -⟩|⟨b,off,cap,rfl, -⟩<;>exact⟨_,_,_,rfl⟩) _).mono ?_;rintro e w1 ⟨rfl,rfl⟩)
 obtain⟨W0,af⟩:∃W0,W0=(w.alloc (.cells #[.bool true] 4)).alloc (.cells #[v] 172):=⟨_,rfl⟩;have ak:Below w.heap.size w W0:=by rw [af];exact pbx
 have aw:W0.heap.size=w.heap.size+2:=by rw [af];simp
 have kr:Blk W0 w.heap.size #[.bool true] 4:=by rw [af];exact bkx
 have kc:Blk W0 (w.heap.size+1) #[v] 172:=by rw [af];exact Blk.new (by simp)
 have ap:=hv.below ak
 have ao:∀a n c,v=.slice (some a) n c->a.block<w.heap.size∨l.length=0:=λa n c e=>by
  rcases hv.2 with⟨h,h0⟩|⟨b,off,cap,h, -,hr⟩
  ·exact .inr h0
  by_cases h0:l.length=0
  ·exact .inr h0
  left
  rw [h] at e;cases e
  obtain⟨x,hx⟩:∃x,(l.flatMap zN)[0]?=some x:=⟨_,N3 (by rw [YS];omega)⟩;exact jx (hr 0 x hx)
 rw [← af];clear af
 refine yV (gf:=304) (lb:=#[.pointer (some ⟨w.heap.size+1,0,none⟩)]) rfl (enters_of func304 (by kernel_rfl) rfl)
  (VT (w.heap.size+1) v l (by omega)) (λ_=>rfl)
  (λk X W=>zmK l w.heap.size W0 k X W)
  (λc X W=>c=.exit 0/\Fr (λk=>k=w.heap.size) W0 X W/\Blk W w.heap.size #[.bool false] 4/\l.all j9=false)
  (λk X X' W W' h hm hx=>h.step (by omega) hm hx)
  (λc s X X' W W' h hm hx=>⟨h.1,h.2.1.step hm hx,h.2.2.1.kept (h.2.1.block hm (by omega)),h.2.2.2⟩)
  (λk X W h=>⟨kc.mod h.1.2 (by omega),zlP ap ao h.1.2 (by omega)⟩)
  (λk X W h=>⟨h.1.2.size,λk hk=>(h.1.1 k hk).2⟩)
  ⟨Fr.refl _ _,kr,rfl⟩
  4 317 (λx=> #[.int .u64 (x.1:Nat),.int .u64 (x.2.1:Nat),.string (bs x.2.2)]) ?assign ?body ?done ?stop
 case assign=>
  intro l' x W K hK;rw [jf] at hK⊢;unfold yY at hK⊢
  gi_wp2
  exact hK
 case body=>
  rintro l' k x cb X X1 W1 W h1⟨ac,kb,aa⟩ ah ay ax au kx ar _;have ab:=λW=>Vi x W
  unfold yY at ab;rw [jf];unfold yY
  have am:(l.take (k+1)).all j9=((l.take k).all j9 && j9 x):=by
   rw [List.take_add_one,ah];simp
  have aj:x∈l:=List.mem_of_getElem? ah;have c0:=kx.cell;obtain⟨x1,x2,x3⟩:=x;simp only at c0 ab kx;replace ab:=hid ab;replace ah:=hid ah
  cases hq:j9 (x1,x2,x3)with
  |true=>
   rw [hq] at am ab
   gi_wp2_with (gi_at_call 303;refine(inRound _ _ (ab.out _)).mono ?_;rintro e w1 ⟨rfl,ae⟩)
   have hm:Mod (λk=>k=w.heap.size) W w1:=Mod.of_below _ ae;exact⟨⟨ac.mod hm (λk _ h=>h),kb.call ae,by rw [am,aa];rfl⟩,jm.of_mod (Mod.of_below (λ_=>False) ae) (λk _ hX he=>he)⟩
  |false=>
   rw [hq] at ab
   have an:l.all j9=false:=by
    rw [List.all_eq_false];exact⟨_,aj,by rw [hq];simp⟩
   gi_wp2_with (gi_at_call 303;refine(inRound _ _ (ab.out _)).mono ?_;rintro e w1 ⟨rfl,ae⟩;have ag:=kb.call ae;have a0:=ag.frozen;have a1:=ag.cell;have az:=ag.lt)
   have hm:Mod (λk=>k=w.heap.size) W (w1.setCell ⟨w.heap.size,0,none⟩ (.bool false)):=(Mod.of_below (λk=>k=w.heap.size) ae).thenSet (p:=⟨w.heap.size,0,none⟩) rfl _;exact⟨⟨rfl,ac.mod hm (λk _ h=>h),ag.set _,an⟩,jm.of_mod hm (λk _ hX he=>by have:=ac.1 k hX;omega)⟩
 case done=>
  rintro D k X W hD aq al⟨ac,kb,aa⟩ ad;obtain rfl:k=l.length:=al;rw [List.take_length] at aa;have eb:=kb.cell;have ai:Below w.heap.size w W:=ak.trans (ac.below (by omega) (λk h=>by omega));go_wp2;rw [Exit.noGoto_ret];go_wp2;exact jl (D:=D) (v:=.bool true) ad (by simp [results,Tryz.results250,go_sem]) ⟨by rw [aa],zS ai (by omega) _⟩
 case stop=>
  rintro D c X W hD aq⟨rfl,ac,kb,aa⟩ ad;have eb:=kb.cell;have ai:Below w.heap.size w W:=ak.trans (ac.below (by omega) (λk h=>by omega));go_wp2;rw [Exit.noGoto_ret];go_wp2;exact jl (D:=D) (v:=.bool false) ad (by simp [results,Tryz.results250,go_sem]) ⟨by rw [aa],zS ai (by omega) _⟩
def YV(l:List jE)(own:List UInt8):jE:=l.foldl (λ(b:jE) v=>if b.2.1<v.2.1 then v else b) (0,0,own)
theorem zkI {w W0 W:World}{v:Value}{xs:List Value}{n rb:Nat}(h:Src W0 v 3 n xs)(hb:∀a m c,v=.slice (some a) m c->a.block<w.heap.size∨n=0)(hm:Mod (λk=>k=rb) W0 W)(hr:w.heap.size<=rb)(hw:w.heap.size<=W0.heap.size):Src W v 3 n xs:=by
 refine⟨h.1,?_⟩
 rcases h.2 with h0|⟨b,off,cap,rfl,hc,hr⟩
 ·exact .inl h0
 refine .inr ⟨b,off,cap,rfl,hc,λj u hu=>?_⟩
 rcases hb _ _ _ rfl with h1|h1
 ·have h2:b<w.heap.size:=h1
  exact(hm.cell (p:=⟨b,off+j,none⟩) (by show b<_;omega) (by show¬b=_;omega)).trans (hr j u hu)
 have:=(N6.1 hu).1
 rw [h.1,h1] at this;simp at this
theorem zg6(l:List jE)(x:jE)(own:List UInt8):YV (l++ [x]) own=if(YV l own).2.1<x.2.1 then x else YV l own:=by
 unfold YV;rw [List.foldl_append];rfl
def zmL(l:List jE)(own:List UInt8)(rb:Nat)(W0:World)(k:Nat)(X:Nat->Prop)(W:World):Prop:=
 Fr (λk=>k=rb) W0 X W/\Blk W rb #[.int .u64 ((YV (l.take k) own).1:Nat),.int .u64 ((YV (l.take k) own).2.1:Nat),.string (bs (YV (l.take k) own).2.2)] 317
theorem zmL.step {l:List jE}{own:List UInt8}{rb:Nat}{W0:World}{k:Nat}{X X':Nat->Prop}{W W':World}(h:zmL l own rb W0 k X W)(hr:rb<W0.heap.size)(hm:Mod X W W')(hx:∀k,X' k->X k∨(W.heap.size<=k/\k<W'.heap.size)):zmL l own rb W0 k X' W':=
 ⟨h.1.step hm hx,h.2.kept (h.1.block hm hr)⟩
theorem zdc(n:Nat)(hn:1<=n/\n<=16)(v:Value)(l:List jE)(own:List UInt8)(w:World)(hv:Src w v 3 l.length (l.flatMap zN))(hl:l.length<=1000):Calls prog 204 #[.int .i64 n,v,.string (bs own)] w λe w'=>e=.returned (.tuple #[.string (bs (Zo n l own).1),.int .i64 (Zo n l own).2])/\Below w.heap.size w w':=by
 have ac:=λW hW=>zdb v l W hW hl
 have ao:∃a c,v=.slice a l.length c:=by
  rcases hv.2 with⟨rfl,h0⟩|⟨b,off,cap,rfl, -⟩
  ·rw [h0];exact⟨_,_,rfl⟩
  exact⟨_,_,rfl⟩
 obtain⟨va,vc,rfl⟩:=ao;have t1:decide ((n:Int)<1)=false:=by simp;omega
 have t2:decide ((16:Int)<(n:Int))=false:=by simp;omega
 have a1:IntKind.i64.wrap (2*(l.length:Int))=((2*l.length:Nat):Int):=by rw [N8];omega
 have ae:=hv;unfold Zo
 by_cases hc:n<l.length∨2*l.length<=n
 ·rw [if_pos hc]
  by_cases h1:n<l.length
  have t3:decide (n<l.length)=true:=by simpa using h1
  rotate_left
  have t3:decide (n<l.length)=false:=by simpa using h1
  have t4:decide (2*(l.length:Int)<=(n:Int))=true:=by simp;omega
  all_goals
   clear hc h1 hn hl ac;refine zl func204 rfl ?_;simp only [ntmps204,R8,Nat.reduceAdd,Nat.reduceSub];go_wp2;exact jp (v:=.tuple #[.string (bs []),.int .i64 81]) (by simp [results,Tryz.results204,go_sem];rfl) ⟨rfl,N2 _ _⟩
 rw [if_neg hc]
 rw [not_or] at hc;have t3:decide (n<l.length)=false:=by simpa using hc.1
 have t4:decide (2*(l.length:Int)<=(n:Int))=false:=by simp;omega
 clear hc hn;replace ac:=hid ac
 cases hal:l.all j9 with
 |false=>
  rw [if_pos (.inl rfl)];rw [hal] at ac;replace hal:=hid hal;refine zl func204 rfl ?_;simp only [ntmps204,R8,Nat.reduceAdd,Nat.reduceSub];go_wp2_with fail
  refine(ac.out _ ae).mono ?_;rintro e w1⟨rfl,af⟩;go_wp2;exact jp (v:=.tuple #[.string (bs []),.int .i64 2]) (by simp [results,Tryz.results204,go_sem];rfl) ⟨rfl,af⟩
 |true=>
  rw [hal] at ac;replace hal:=hid hal;have aj:=λb W hW=>XX b own W hW
  replace aj:=hid aj
  by_cases ho:4000<own.length
  ·rw [if_pos (.inr ho)]
   refine zl func204 rfl ?_;simp only [ntmps204,R8,Nat.reduceAdd,Nat.reduceSub];go_wp2_with fail
   refine(ac.out _ ae).mono ?_;rintro e w1⟨rfl,af⟩;go_wp2_with fail
   refine(aj.out _ _ (by simp)).mono ?_;rintro e w2⟨rfl,rfl⟩;have t5:decide (own.length<=4000)=false:=by simp;omega
   clear ho;go_wp2;exact jp (v:=.tuple #[.string (bs []),.int .i64 2]) (by simp [results,Tryz.results204,go_sem];rfl) ⟨rfl,pbx⟩
  rw [if_neg (by simp;omega)]
  have t5:decide (own.length<=4000)=true:=by simp;omega
  clear ho;replace hl:=hid hl;refine zl func204 rfl ?_;simp only [ntmps204,R8,Nat.reduceAdd,Nat.reduceSub];go_wp2_with fail
  refine(ac.out _ ae).mono ?_;rintro e w1⟨rfl,af⟩;go_wp2_with fail
  refine(aj.out _ _ (by simp)).mono ?_;rintro e w2⟨rfl,rfl⟩
  go_wp2_with (go_at_call 252;refine(Qk _ ⟨_,_,_,rfl⟩ _).mono ?_;rintro e w2 ⟨rfl,rfl⟩)
  obtain⟨W0,ag⟩:∃W0,W0=((w1.alloc (.cells #[.string (bs own)] 9)).alloc (.cells #[.int .u64 0,.int .u64 0,.string (bs own)] 317)).alloc (.cells #[.slice va l.length vc] 172):=⟨_,rfl⟩;have an:Below w1.heap.size w1 W0:=by rw [ag];exact pbx
  have ay:W0.heap.size=w1.heap.size+3:=by rw [ag];simp
  have kr:Blk W0 (w1.heap.size+1) #[.int .u64 0,.int .u64 0,.string (bs own)] 317:=by rw [ag];exact bkx
  have kc:Blk W0 (w1.heap.size+1+1) #[.slice va l.length vc] 172:=by rw [ag];exact Blk.new (by simp)
  have am:=ae.below af;have ar:=am.below an
  have aq:∀a n c,(Value.slice va l.length vc)=.slice (some a) n c->a.block<w1.heap.size∨l.length=0:=λa n c e=>by
   rcases am.2 with⟨h,h0⟩|⟨b,off,cap,h, -,hr⟩
   ·exact .inr h0
   by_cases h0:l.length=0
   ·exact .inr h0
   left
   rw [h] at e;cases e
   obtain⟨x,hx⟩:∃x,(l.flatMap zN)[0]?=some x:=⟨_,N3 (by rw [YS];omega)⟩;exact jx (hr 0 x hx)
  rw [← ag];clear ag
  refine yV (gf:=304) (lb:=#[.pointer (some ⟨w1.heap.size+1+1,0,none⟩)]) rfl (enters_of func304 (by kernel_rfl) rfl)
   (VT (w1.heap.size+1+1) _ l (by have:=hl.out;omega)) (λ_=>rfl)
   (λk X W=>zmL l own (w1.heap.size+1) W0 k X W)
   (λc X W=>False)
   (λk X X' W W' h hm hx=>h.step (by omega) hm hx)
   (λc s X X' W W' h hm hx=>h)
   (λk X W h=>⟨kc.mod h.1.2 (by omega),zkI ar aq h.1.2 (by omega) (by omega)⟩)
   (λk X W h=>⟨h.1.2.size,λk hk=>(h.1.1 k hk).2⟩)
   ⟨Fr.refl _ _,kr⟩
   9 317 (λx=> #[.int .u64 (x.1:Nat),.int .u64 (x.2.1:Nat),.string (bs x.2.2)]) ?assign ?body ?done ?stop
  case assign=>
   intro l' x W K hK;rw [jf] at hK⊢;unfold yY at hK⊢
   gi_wp2
   exact hK
  case body=>
   rintro l' k x cb X X1 W1 W h1⟨ah,kb⟩ al a0 az ax kx aw _;rw [jf];unfold yY
   have aa:YV (l.take (k+1)) own=if(YV (l.take k) own).2.1<x.2.1 then x else YV (l.take k) own:=by
    rw [List.take_add_one,al];exact zg6 _ _ _
   obtain⟨ad,ab⟩:∃ad,YV (l.take k) own=ad:=⟨_,rfl⟩;rw [ab] at aa kb;clear ab;obtain⟨x1,x2,x3⟩:=x;obtain⟨b1,b2,b3⟩:=ad;simp only at kx kb aa;replace al:=hid al;replace ae:=hid ae;clear am hv;have c0:=kx.cell;have lx:=kx.lt;have fx:=kx.frozen;have e0:=kb.cell;have lb:=kb.lt;have fb:=kb.frozen
   by_cases hq:b2<x2
   ·have t6:decide (b2<x2)=true:=by simpa using hq
    rw [if_pos hq] at aa;clear hq;replace aa:=hid aa
    gi_wp2
    have hm:Mod (λk=>k=w1.heap.size+1) W (((W.setCell ⟨w1.heap.size+1,0,none⟩ (.int .u64 x1)).setCell ⟨w1.heap.size+1,1,none⟩ (.int .u64 x2)).setCell ⟨w1.heap.size+1,2,none⟩ (.string (bs x3))):=(((Mod.refl (λk=>k=w1.heap.size+1) W).thenSet (p:=⟨w1.heap.size+1,0,none⟩) rfl _).thenSet (p:=⟨w1.heap.size+1,1,none⟩) rfl _).thenSet (p:=⟨w1.heap.size+1,2,none⟩) rfl _;exact⟨⟨ah.mod hm (λk _ h=>h),by rw [aa.out];exact((kb.set (o:=0) _).set (o:=1) _).set (o:=2) _⟩,jm.of_mod hm (λk _ hX he=>by have:=ah.1 k hX;omega)⟩
   have t6:decide (b2<x2)=false:=by simpa using hq
   rw [if_neg hq] at aa;clear hq;replace aa:=hid aa
   gi_wp2
   exact⟨⟨ah,by rw [aa.out];exact kb⟩,jm.refl _ _⟩
  case done=>
   rintro D k X W hD au ak⟨ah,kb⟩ ai;obtain rfl:k=l.length:=ak;rw [List.take_length] at kb;have eb:=kb.cell;have ap:Below w1.heap.size w1 W:=an.trans (ah.below (by omega) (λk h=>by omega));go_wp2;exact jl (D:=D) (v:=.tuple #[.string (bs (YV l own).2.2),.int .i64 0]) ai (by simp [results,Tryz.results204,go_sem]) ⟨rfl,zS (ze af ap) (by have:=af.size;omega) _⟩
  case stop=>
   rintro D c X W hD au h ai;exact h.elim
theorem zje(b i:Nat)(hi:i<16)(w:World):Calls prog 95 #[.int .u64 b,.int .i64 i] w λe w'=>e=.returned (.tuple #[.int .u64 (jt b i).1,.int .i64 (jt b i).2])/\w'=w:=by
 have t1:decide ((i:Int)<0)=false:=by simp
 have t2:decide ((16:Int)<=(i:Int))=false:=by simp;omega
 unfold jt
 by_cases hb:1152921504606846976<b
 ·rw [if_pos (.inr hb)]
  have t3:decide (1152921504606846976<(b:Int))=true:=by simp;omega
  have t4:decide (1152921504606846976<b)=true:=by simpa using hb
  clear hb hi
  go_enter func95,ntmps95
  go_wp2;go_ret2
  exact⟨rfl,rfl⟩
 have t3:decide (1152921504606846976<(b:Int))=false:=by simp;omega
 have t4:decide (1152921504606846976<b)=false:=by simpa using hb
 rw [if_neg (by omega)]
 have aa:(b / 16*16)|||i=b / 16*16+i:=by
  have:=Nat.two_pow_add_eq_or_of_lt (i:=4) (b:=i) (by omega) (b / 16);rw [Nat.mul_comm (b / 16) 16];exact this.symm
 have q1:IntKind.u64.wrap ((b:Int) / 16*16)=(b:Int) / 16*16:=by rw [IntKind.wrap_u64];omega
 have q2:IntKind.u64.wrap (i:Int)=(i:Int):=by rw [IntKind.wrap_u64];omega
 have q3:bits .or .u64 ((b:Int) / 16*16) (i:Int)=((b / 16*16+i:Nat):Int):=by
  have:=X2 (b / 16*16) i (by omega) (by omega);rw [aa] at this;rw [← this];norm_cast
 obtain⟨X,hX⟩:∃X,b / 16*16+i=X:=⟨_,rfl⟩;have q4:IntKind.u64.wrap ((X:Int)+16)=((X+16:Nat):Int):=by rw [IntKind.wrap_u64];omega
 rw [hX] at q3⊢;clear hb hi aa hX
 by_cases hx:X<=b
 ·have t5:decide (X<=b)=true:=by simpa using hx
  rw [if_pos hx];clear hx
  go_enter func95,ntmps95
  go_wp2;go_ret2
  exact⟨rfl,rfl⟩
 have t5:decide (X<=b)=false:=by simpa using hx
 rw [if_neg hx];clear hx
 go_enter func95,ntmps95
 go_wp2;go_ret2
 exact⟨rfl,rfl⟩
theorem zmX:Yf prog 172 317 3 32 (.agg #[.int .u64 0,.int .u64 0,.string ⟨#[]⟩]):=⟨Tryz.underlying172,by kernel_rfl,rfl,by decide,by decide⟩
theorem zbD(l:List jE):∀u∈l.flatMap zN,u.oneCell'=true:=by
 intro u hu;obtain⟨m,_,hm⟩:=List.mem_flatMap.1 hu;simp only [zN,List.mem_cons,List.mem_nil_iff,or_false] at hm
 rcases hm with rfl|rfl|rfl<;>rfl
theorem zjf(l:List jE)(own:List UInt8)(ho:own.length<=4000)(h:l.all j9=true):(YV l own).2.2.length<=4000:=by
 have h':∀x∈l,x.2.2.length<=4000:=λx hx=>by
  have:=List.all_eq_true.1 h x hx;unfold j9 at this;simp only [Bool.and_eq_true,decide_eq_true_eq] at this;exact this.2
 clear h;unfold YV
 suffices H:∀(l:List jE)(b:jE),b.2.2.length<=4000->(∀x∈l,x.2.2.length<=4000)->(l.foldl (λ(b:jE) v=>if b.2.1<v.2.1 then v else b) b).2.2.length<=4000 from H l (0,0,own) ho h'
 intro l
 induction l with
 |nil=>intro b hb _;exact hb
 |cons x l ih=>
  intro b hb hl;refine ih _ ?_ (λy hy=>hl y (by simp [hy]))
  show(if b.2.1<x.2.1 then x else b).2.2.length<=4000
  split
  ·exact hl x (by simp)
  exact hb
theorem zg7(n:Nat)(l:List jE)(own:List UInt8):(Zo n l own).1.length<=4000:=by
 unfold Zo
 split
 ·simp
 split
 ·simp
 rename_i h2
 exact zjf l own (by omega) (by by_cases h:l.all j9=true;exact h;exact absurd (.inl (by simpa using h)) h2)
theorem zbE {pv:Value}{l:ye}(x:List UInt8):(zE pv l).set 2 (.string (bs x))=zE pv {l with value:=x} :=rfl
theorem QR {pv:Value}{l:ye}(pv':Value):(zE pv l).set 3 pv'=zE pv' l:=rfl
theorem zeE {lb:Nat}{l:ye}{x:jE}{pv pv':Value}{u:List Nat}{ow:Own}{W W7:World}(hB:Blk W lb (zE pv l).toArray 175)(hR:Row W 317 3 pv l.promises.length (l.promises.flatMap zN))(o1:ow lb=u)(o2:∀g,pv.ownBlock=some g->ow g=u)
 (hrow:Row W7 317 3 pv' (l.promises.length+ [x].length) (l.promises.flatMap zN++ [x].flatMap zN)) (hgr:W.grownBy W7 pv.ownBlock) (hown:pv'.ownBlock=pv.ownBlock∨pv'.ownBlock=some W.heap.size) (h1:l.promised.length=16) (h2:l.voted.length=16):
 Blk W7 lb (zE pv l).toArray 175/\zp u ow W (ow.ext W.heap.size (λk=>pv'.ownBlock=some k) u) (W7.setCell ⟨lb,3,none⟩ pv')/\Blk (W7.setCell ⟨lb,3,none⟩ pv') lb (zE pv' {l with promises:=l.promises++ [x] }).toArray 175/\Row (W7.setCell ⟨lb,3,none⟩ pv') 317 3 pv' (l.promises++ [x]).length ((l.promises++ [x]).flatMap zN)/\
  (ow.ext W.heap.size (λk=>pv'.ownBlock=some k) u) lb=u/\(∀g,pv'.ownBlock=some g->(ow.ext W.heap.size (λk=>pv'.ownBlock=some k) u) g=u)/\YT lb {l with promises:=l.promises++ [x] } u (ow.ext W.heap.size (λk=>pv'.ownBlock=some k) u) (W7.setCell ⟨lb,3,none⟩ pv'):=by
 have aa:∀g,pv.ownBlock=some g->g≠lb:=λg hg=>hR.ne_blk hB (by decide) hg
 have lB:=hB.lt;have k7:Blk W7 lb (zE pv l).toArray 175:=hB.kept (hgr.block lb lB (λe=>aa lb e.symm rfl));have k8:Blk (W7.setCell ⟨lb,3,none⟩ pv') lb (zE pv' {l with promises:=l.promises++ [x] }).toArray 175:=k7.setL (QR pv')
 have ab:∀g,pv'.ownBlock=some g->(pv.ownBlock=some g∨g=W.heap.size):=λg hg=>by
  rw [hg] at hown
  rcases hown with h|h
  ·exact .inl h.symm
  right;simpa using h
 have r8:Row (W7.setCell ⟨lb,3,none⟩ pv') 317 3 pv' (l.promises++ [x]).length ((l.promises++ [x]).flatMap zN):=by
  simp only [N1,U5];refine hrow.kept (λg hg=>N4 _ _ _ _ (λe=>?_));have e':g=lb:=e;subst e'
  rcases ab g hg with h|h
  ·exact aa g h rfl
  omega
 have p1:(ow.ext W.heap.size (λk=>pv'.ownBlock=some k) u) lb=u:=by rw [Own.ext_old lB,o1]
 have p2:∀g,pv'.ownBlock=some g->(ow.ext W.heap.size (λk=>pv'.ownBlock=some k) u) g=u:=by
  intro g hg
  rcases ab g hg with h|h
  ·rw [Own.ext_old (hR.lt h),o2 g h]
  rw [Own.ext_new (by omega) hg]
 refine⟨k7,⟨?_,λk hk=>Own.ext_old hk⟩,k8,r8,p1,p2,h1,h2,pv',k8,r8,p1,p2⟩;exact(Mod.grown (X:=λk=>Sub u (ow k)) hgr (λk h=>by rw [o2 k h];exact Sub.rfl' u)).thenSet (p:=⟨lb,3,none⟩) (by simp only [o1];exact Sub.rfl' u) _
theorem V1(B:Nat)(K:WK)(S:zf)(t:List Nat)(ht:t≠ [])(ow:Own)(i src:Nat)(hi:i<16)(hsrc:src<16)(inst:Int)(ballot:Nat)(more:List UInt8)(hmr:more.length<=1000000)(w:World)(h:zK B K S t ow w)(hg:zby S)(hlv:∀l,zH (i:Int) S.leads=some l->l.promises.length<=900):
 Calls prog 152 #[.pointer (some ⟨B,0,none⟩),.int .i64 i,.int .i64 src,xX inst ballot,.string (bs more)] w (qK B K (countPromise S i src inst ballot more) t ow w (.tuple #[])):=by
 obtain⟨tv,lp,hI⟩:=h;have a5:Below w.heap.size w (w.alloc (.cells #[.int .i64 inst,.int .u64 (ballot:Nat)] 171)):=pbx;have au:=(zk.loc B K tv lp S t).cut hI a5;have km:Blk (w.alloc (.cells #[.int .i64 inst,.int .u64 (ballot:Nat)] 171)) w.heap.size #[.int .i64 inst,.int .u64 (ballot:Nat)] 171:=Blk.new rfl;have cu:(ow.cut w) w.heap.size=[]:=Own.cut_new (N0 _);have ao:=λW hW=>Qj (B:=B) (K:=K) (tv:=tv) (lp:=lp) (S:=S) (t:=t) (ow:=ow.cut w) i inst ballot W hW
 obtain⟨an,ba⟩:∃o,ow.cut w=o:=⟨_,rfl⟩;have ed:zp t an w an w:=zp.refl _ _ _;rw [ba] at au cu ao;unfold xX at*;clear hI
 cases hbb:VS S i inst ballot with
 |false=>
  have aq:countPromise S i src inst ballot more=S:=by
   unfold countPromise;unfold VS at hbb
   cases hl:zH (i:Int) S.leads with
   |none=>rfl
   |some l=>
    rw [hl] at hbb;simp only at hbb⊢;rw [if_pos]
    by_cases h1:l.inst=inst
    ·right;left;intro h2;simp [h1,h2] at hbb
    left;exact h1
  rw [aq];rw [hbb] at ao;replace ao:=hid ao;clear aq hbb
  go_enter func152,ntmps152
  go_wp2_with fail
  refine(ao.out _ au).mono ?_;rintro e w2⟨rfl,ab⟩;have a3:=(zk.loc B K tv lp S t).below au ab;have ai:=ze a5 ab;go_wp2;go_end0
  exact⟨rfl,an,zp.wrap ai (by rw [ba];exact zp.refl _ _ _),tv,lp,a3⟩
 |true=>
  obtain⟨l,hl,d5,eb⟩:∃l,zH (i:Int) S.leads=some l/\l.inst=inst/\l.ballot=ballot:=by
   unfold VS at hbb
   cases hl:zH (i:Int) S.leads with
   |none=>rw [hl] at hbb;cases hbb
   |some l=>rw [hl] at hbb;simp at hbb;exact⟨l,rfl,hbb.1,hbb.2⟩
  obtain⟨lb,bq,h1,h2,pv,al,a2,o1,o2⟩:=au.leadAt hl;rw [hbb,bq] at ao;unfold zmJ at ao;simp only [Option.map_some] at ao;obtain⟨num,cd⟩:∃x,zW more 0+4294967296*zW more 4=x:=⟨_,rfl⟩
  have aq:countPromise S i src inst ballot more=if l.asked∨l.promised[src]?.getD false∨more.length<8 then S
   else if 2*(l.promises.length+1)<=S.nodes.length then {S with leads:=put (i:Int) {l with promised:=l.promised.set src true,promises:=l.promises++ [(ballot,num,more.drop 8)] } S.leads}
   else if(Zo S.nodes.length (l.promises++ [(ballot,num,more.drop 8)]) l.value).2≠0 then {S with leads:=put (i:Int) {l with promised:=l.promised.set src true,promises:=l.promises++ [(ballot,num,more.drop 8)] } S.leads}
   else j1 {S with leads:=put (i:Int) {l with promised:=l.promised.set src true,promises:=l.promises++ [(ballot,num,more.drop 8)],asked:=true,value:=(Zo S.nodes.length (l.promises++ [(ballot,num,more.drop 8)]) l.value).1} S.leads} 5 i inst ballot (Zo S.nodes.length (l.promises++ [(ballot,num,more.drop 8)]) l.value).1:=by
   unfold countPromise;rw [hl,← cd];simp only
   by_cases hc:l.asked∨l.promised[src]?.getD false∨more.length<8
   ·rw [if_pos (.inr (.inr hc)),if_pos hc]
   rw [if_neg hc,if_neg (by rw [d5,eb];simp only [ne_eq,not_true_eq_false,false_or];exact hc)]
   simp only [N1,U2]
  have cx:=hlv l hl;have cc:=QP (pv:=pv) h1 hsrc;have ce:=vg (pv:=pv) h1 h2 1;obtain⟨vd,cv⟩:∃b,l.promised[src]?.getD false=b:=⟨_,rfl⟩;rw [cv] at cc aq;have y0:(0:Int)<=(src:Int):=by omega
  have y1:(src:Int)<16:=by omega
  replace ao:=hid ao;replace cv:=hid cv;replace hlv:=hid hlv;replace hbb:=hid hbb;replace hl:=hid hl;replace bq:=hid bq;replace o2:=hid o2;have bc:=zI more
  by_cases hc:l.asked=true∨vd=true∨more.length<8
  ·rw [if_pos hc] at aq
   rw [aq];replace aq:=hid aq
   cases br:l.asked with
   |true=>
    replace bc:=hid bc;clear hc hmr
    go_enter func152,ntmps152
    go_wp2_with fail
    refine(ao.out _ au).mono ?_;rintro e w2⟨rfl,ab⟩;have a3:=(zk.loc B K tv lp S t).below au ab;have ai:=ze a5 ab;have bd:=(al.call ab).cellL ce;simp only [Nat.reduceAdd,br] at bd;go_wp2;go_end0
    exact⟨rfl,an,zp.wrap ai (by rw [ba];exact zp.refl _ _ _),tv,lp,a3⟩
   |false=>
    rw [br] at hc
    cases vd with
    |true=>
     replace bc:=hid bc;clear hc hmr
     go_enter func152,ntmps152
     go_wp2_with fail
     refine(ao.out _ au).mono ?_;rintro e w2⟨rfl,ab⟩;have a3:=(zk.loc B K tv lp S t).below au ab;have ai:=ze a5 ab;have bd:=(al.call ab).cellL ce;have c1:=(al.call ab).cellL cc;simp only [Nat.reduceAdd,br] at bd;go_wp2;go_end0
     exact⟨rfl,an,zp.wrap ai (by rw [ba];exact zp.refl _ _ _),tv,lp,a3⟩
    |false=>
     have h8:more.length<8:=by simpa using hc
     have t8:decide (((bs more).size:Int)<8)=true:=by rw [bc];simp;omega
     replace bc:=hid bc;clear hc h8 hmr
     go_enter func152,ntmps152
     go_wp2_with fail
     refine(ao.out _ au).mono ?_;rintro e w2⟨rfl,ab⟩;have a3:=(zk.loc B K tv lp S t).below au ab;have ai:=ze a5 ab;have bd:=(al.call ab).cellL ce;have c1:=(al.call ab).cellL cc;simp only [Nat.reduceAdd,br] at bd;go_wp2;go_end0
     exact⟨rfl,an,zp.wrap ai (by rw [ba];exact zp.refl _ _ _),tv,lp,a3⟩
  rw [if_neg hc] at aq
  rw [not_or,not_or] at hc;have br:l.asked=false:=by simpa using hc.1
  have dz:vd=false:=by simpa using hc.2.1
  have h8:8<=more.length:=by omega
  have t8:decide ((more.length:Int)<8)=false:=by simp;omega
  have a0:=λW=>zfv more h8 hmr W
  have dg:=yy more 8;rw [bc] at dg;have t9:(8:Int)<=(more.length:Int):=by omega
  rw [cd] at a0;subst dz;replace a0:=hid a0;replace aq:=hid aq;clear hc
  go_enter func152,ntmps152
  go_wp2_with fail
  refine(ao.out _ au).mono ?_;rintro e w2⟨rfl,ab⟩;have a3:=(zk.loc B K tv lp S t).below au ab;have ai:=ze a5 ab;have ag:=al.call ab;have bd:=ag.cellL ce;have c1:=ag.cellL cc;have f2:=ag.frozen;have l2:=ag.lt;simp only [Nat.reduceAdd,br] at bd;go_wp2_with fail
  obtain⟨w3,ci⟩:∃w3,w3=w2.setCell ⟨lb,4+src,none⟩ (.bool true):=⟨_,rfl⟩;have cj:Mod (λk=>k=lb) w2 w3:=by rw [ci];exact(Mod.refl (λk=>k=lb) w2).thenSet (p:=⟨lb,4+src,none⟩) rfl _
  have ad:Blk w3 lb (zE pv {l with promised:=l.promised.set src true}).toArray 175:=by
   rw [ci];exact ag.setL (zc8 h1 hsrc true)
  rw [← ci];clear ci bd c1 f2 l2;obtain⟨l3,a4⟩:∃x:ye,x={l with promised:=l.promised.set src true} :=⟨_,rfl⟩;have cr:l3.promised.length=16:=by rw [a4];simpa using h1
  have dd:l3.voted.length=16:=by rw [a4];exact h2
  have az:l3.promises=l.promises:=by rw [a4]
  have ct:l3.value=l.value:=by rw [a4]
  rw [← a4] at ad;obtain⟨c7,dw⟩:=Ju (l':=l3) ag (a2.below ab) o1 o2.out cj ad az cr dd
  have ak:Row w3 317 3 pv l3.promises.length (l3.promises.flatMap zN):=by
   rw [az];exact(a2.below ab).mod cj (λg hg e=>(a2.below ab).ne_blk ag (by decide) hg e)
  have du:=a3.setLead bq.out c7 dw;have b1:lb≠w.heap.size:=λe=>by rw [e,cu] at o1;simp at o1
  have bn:=(km.call ab).kept (cj.block _ (km.call ab).lt (λe=>b1 e.symm));have bv:zp t an (w.alloc (.cells #[.int .i64 inst,.int .u64 (ballot:Nat)] 171)) an w3:=(zp.of_below t an ab).trans (c7.mono (Sub.child t (i+32)));have dv:w3.cell? ⟨lb,3,none⟩=some pv:=ad.cell 3;have d6:=bn.cell;have ee:=ad.frozen;have dx:=ad.lt;have da:=ak;obtain⟨pa,pc,rfl⟩:=ak.wideV.shape;replace a4:=hid a4;replace ct:=hid ct;replace az:=hid az;replace ak:=hid ak;replace a2:=hid a2;clear da cc ce cx al ag au a3 dw cj;refine zd [O 0,O 1,O 2,O 3,O 4,O 5,O 6,O 7,O 9,O 10,E 8,E 11,E 12,E 13,O 14,O 15,E 16] (some 16) (λw'=>w'.cell? ⟨lb,3,none⟩=some (.slice pa l3.promises.length pc)/\Blk w' w.heap.size #[.int .i64 inst,.int .u64 (ballot:Nat)] 171/\True) (by kernel_rfl) (by kernel_rfl) ⟨dv,bn.drew,trivial⟩ ?_
  refine We ?_
  refine zc rfl (λJ hJ=>?_);go_wp2_with fail
  refine(a0.out _).mono ?_;rintro e w4⟨rfl,dl⟩;have a1:Below w3.heap.size w3 w4:=ze (zm (N2 _ _)) dl;have cz:=(ad.call a1).cell 3;have cm:=bn.call a1;go_wp2;refine hJ.out _ _ (λ_=>⟨cz,cm,trivial⟩) ?_;clear hJ J;refine zc rfl (λJ hJ=>?_);go_wp2;refine hJ.out _ _ (λ_=>⟨cz,cm.drew,trivial⟩) ?_;clear hJ J;refine zc rfl (λJ hJ=>?_);go_wp2;refine hJ.out _ _ (λ_=>⟨((ad.call a1).alloc _).cell 3,(cm.alloc _).drew,trivial⟩) ?_;clear hJ J;obtain⟨W5,cl⟩:∃W5,W5=w4.alloc (.cells #[.int .u64 (ballot:Nat),.int .u64 (num:Nat),.string (bs (more.drop 8))] 317):=⟨_,rfl⟩;have b3:Below w4.heap.size w4 W5:=by rw [cl];exact zi (N2 _ _) _
  have aw:Below w3.heap.size w3 W5:=ze a1 b3;have k5:Blk W5 w4.heap.size #[.int .u64 (ballot:Nat),.int .u64 (num:Nat),.string (bs (more.drop 8))] 317:=by rw [cl];exact Blk.new rfl
  have bf:Src W5 (.slice (some ⟨w4.heap.size,0,none⟩) 1 1) 3 [((ballot,num,more.drop 8):jE)].length ([((ballot,num,more.drop 8):jE)].flatMap zN):=jD (n:=1) (size:=3) (cap:=1) k5 rfl (N0 1);rw [← cl];clear cl;have dh:=(zk.loc B K tv lp _ t).cut du aw;have ca:=ad.call aw;have bj:=ak.out.below aw;have cn:=bn.call aw;have ds:(an.cut w3) lb=t++ [i+32]:=(Own.cut_old dx).trans o1;have bw:∀g,(Value.slice pa l3.promises.length pc).ownBlock=some g->(an.cut w3) g=t++ [i+32]:=λg hg=>(Own.cut_old (ak.out.lt hg)).trans (o2.out g hg)
  have cs:(an.cut w3) w.heap.size=[]:=(Own.cut_old bn.lt).trans cu;have ea:l3.promises.length<=900:=by rw [az.out];exact hlv.out l hl.out
  obtain⟨d7,W7,a7,ay,bu,a9⟩:=zM zmX bj bf (zbD _) (by simp;omega) 172;obtain⟨ar,b2,af,b5,dq,bk,ck⟩:=zeE ca bj ds bw ay bu a9 cr dd;have a6:∀g,(Value.slice pa l3.promises.length pc).ownBlock=some g->g≠w.heap.size:=λg hg e=>by have:=bw g hg;rw [e,cs] at this;simp at this
  have de:Blk W7 w.heap.size #[.int .i64 inst,.int .u64 (ballot:Nat)] 171:=cn.kept (bu.block _ cn.lt (λe=>a6 _ e.symm rfl));have bp:=dh.setLead bq.out b2 ck;have cw:=de.other (p:=⟨lb,3,none⟩) (λe=>b1 e.symm) d7;obtain⟨sa,sc,rfl⟩:=ay.wideV.shape;have dn:=ar.cell 3;have ef:=ar.frozen;have d4:=ar.lt;replace ar:=hid ar;replace a7:=hid a7;replace ay:=hid ay;replace bu:=hid bu;replace a9:=hid a9;replace bw:=hid bw;replace a6:=hid a6;refine zc rfl (λJ hJ=>?_);refine zv rfl _ _ _ rfl rfl rfl a7.out ?_;unfold wpList;refine hJ.out _ _ (λ_=>⟨dn,de,trivial⟩) ?_;clear hJ J
  refine We ?_
  refine zc rfl (λJ hJ=>?_);go_wp2;refine hJ.out _ _ (λhh=>absurd rfl hh) ?_;clear hJ J;refine zg ?_;have dt:((an.cut w3).ext W5.heap.size (λk=>(Value.slice sa (l3.promises.length+ [((ballot,num,more.drop 8):jE)].length) sc).ownBlock=some k) (t++ [i+32])) w.heap.size=[]:=(Own.ext_old cn.lt).trans cs;obtain⟨O8,d3⟩:∃O9,(an.cut w3).ext W5.heap.size (λk=>(Value.slice sa (l3.promises.length+ [((ballot,num,more.drop 8):jE)].length) sc).ownBlock=some k) (t++ [i+32])=O9:=⟨_,rfl⟩;rw [d3] at b2 dq bk ck bp dt;obtain⟨l8,bg⟩:∃x:ye,x={l3 with promises:=l3.promises++ [(ballot,num,more.drop 8)] } :=⟨_,rfl⟩;have b8:l8.value=l.value:=by rw [bg];exact ct.out
  have ap:l8.promises=l.promises++ [(ballot,num,more.drop 8)]:=by rw [bg];show l3.promises++_=_;rw [az.out]
  have c6:l8.promised.length=16:=by rw [bg];exact cr
  have c0:l8.voted.length=16:=by rw [bg];exact dd
  rw [← bg] at af ck bp;rw [← az.out] at ap;have a8:l8.promises.length=l3.promises.length+1:=by rw [ap];simp
  have aa:Row (W7.setCell ⟨lb,3,none⟩ (.slice sa (l3.promises.length+ [((ballot,num,more.drop 8):jE)].length) sc)) 317 3 (.slice sa (l3.promises.length+ [((ballot,num,more.drop 8):jE)].length) sc) l8.promises.length (l8.promises.flatMap zN):=by rw [ap];exact b5
  obtain⟨w8,cq⟩:∃x,x=W7.setCell ⟨lb,3,none⟩ (.slice sa (l3.promises.length+ [((ballot,num,more.drop 8):jE)].length) sc):=⟨_,rfl⟩;rw [← cq] at b2 af ck bp cw aa;have b6:zp t an w3 O8 w8:=zp.wrap aw (b2.mono (Sub.child t (i+32)));have bl:=bv.trans b6;have c5:=bq.out;have bt:({({S with leads:=put (i:Int) l3 S.leads} :zf)with leads:=put (i:Int) l8 (put (i:Int) l3 S.leads)} :zf)={S with leads:=put (i:Int) l8 S.leads} :=by rw [zbB]
  simp only [U2] at af aa bk cq;rw [← cq];clear cq b5 ar a7 ay bu a9 bw a6 dn ef d4 de dh ca bj cn ds cs bf k5 aw b3 a1 dl cz cm b2 b6 bv ad ak c7 dv d6 ee dx du bn dg t9 t8 a0;rw [← a8] at af aa bk;have co:=af.cell 3;have db:w8.cell? ⟨lb,2,none⟩=some (.string (bs l8.value)):=af.cell 2;rw [b8] at db;have ch:=bp.blk;have d2:l8.promises.length<=901:=by omega
  have d9:IntKind.i64.wrap (2*(l8.promises.length:Int))=((2*l8.promises.length:Nat):Int):=by rw [N8];omega
  obtain⟨N,hN⟩:∃N,S.nodes.length=N:=⟨_,rfl⟩;simp only [hN] at ch;obtain⟨V,hV⟩:∃V,l8.promises.length=V:=⟨_,rfl⟩;rw [hV] at af d9 bk co aa;replace a8:=hid a8;replace hV:=hid hV;replace aa:=hid aa;go_wp2_with fail
  refine zd [O 0,O 1,O 2,O 3,O 4,O 5,O 6,O 7,O 8,O 9,O 10,O 11] none (λw'=>w'.cell? ⟨lb,3,none⟩=some (.slice sa V sc)/\Blk w' B #[.slice (some ⟨K.nb,0,none⟩) N K.nc,.slice (some ⟨K.sb,0,none⟩) N N,.map (some K.lm),.pointer (some ⟨K.fb,0,none⟩),.map (some K.hm),.map (some K.dm),tv] 65/\True) (by kernel_rfl) (by kernel_rfl) ⟨co,ch.drew,trivial⟩ ?_
  refine We ?_
  refine zg ?_;have be:l.promises.length+1=V:=by rw [← hV.out,a8.out,az.out]
  by_cases hle:2*V<=N
  ·have t9:decide (2*V<=N)=true:=by simpa using hle
   have ac:=aq.out;rw [hN,be,if_pos hle] at ac;replace ac:=hid ac;go_wp2;go_end0
   refine⟨rfl,O8,zp.wrap a5 (by rw [ba];exact bl.trans (zp.drew _ _ _)),?_⟩;rw [ac.out];have:=(zk.loc B K tv lp _ t).below bp (zm (N2 _ _));rw [bt,bg,a4.out] at this;exact⟨tv,lp,this⟩
  have t9:decide (2*V<=N)=false:=by simpa using hle
  obtain⟨px,pe,cp⟩:∃x e,Zo N l8.promises l.value=(x,e):=⟨_,_,rfl⟩;have dj:=zg7 N l8.promises l.value;have bo:=λW hW=>zdc N (by rw [← hN];exact hg.n0) (.slice sa V sc) l8.promises l.value W hW (by omega)
  rw [cp] at bo dj;have ac:=aq.out;rw [hN,be,if_neg hle,← az.out,← ap,cp] at ac;simp only at ac bo dj;rw [hV.out] at bo;replace bo:=hid bo;replace ac:=hid ac;replace cp:=hid cp;replace hV':=hV.out;have bh:=aa.out.src;replace bh:=hid bh;replace hV':=hid hV';go_wp2_with fail
  refine zd [O 0,O 1,O 2,O 3,O 4,O 5,O 6,O 7,O 8,O 9,O 10,O 11,O 12,E 13,O 14,O 15,O 16,O 17,O 18] none (λw'=>w'.cell? ⟨lb,3,none⟩=some (.slice sa V sc)/\w'.cell? ⟨lb,2,none⟩=some (.string (bs l.value))/\Blk w' B #[.slice (some ⟨K.nb,0,none⟩) N K.nc,.slice (some ⟨K.sb,0,none⟩) N N,.map (some K.lm),.pointer (some ⟨K.fb,0,none⟩),.map (some K.hm),.map (some K.dm),tv] 65/\True) (by kernel_rfl) (by kernel_rfl) ⟨co,db,ch.drew,trivial⟩ ?_
  refine Wu ?_
  refine zc rfl (λJ hJ=>?_);go_wp2_with fail
  refine(bo.out _ (bh.out.below (zm (zm (N2 _ _))))).mono ?_;rintro e w9⟨rfl,d0⟩;have aj:Below w8.heap.size w8 w9:=ze (zm (zm (N2 _ _))) d0;have ah:=af.call aj;go_wp2;refine hJ.out _ _ (λ_=>⟨ah.cell 3,by have:=ah.cell 2;rw [← b8];exact this,ch.call aj,trivial⟩) ?_;clear hJ J
  refine Wu ?_
  refine zg ?_;clear co db ch;have dp:=(zk.loc B K tv lp _ t).cut bp aj;have di:=cw.call aj;have d1:(O8.cut w8) lb=t++ [i+32]:=(Own.cut_old af.lt).trans dq;have c8:∀g,(Value.slice sa V sc).ownBlock=some g->(O8.cut w8) g=t++ [i+32]:=λg hg=>(Own.cut_old (aa.out.lt hg)).trans (bk g hg)
  have ei:(O8.cut w8) w.heap.size=[]:=(Own.cut_old cw.lt).trans dt;have bi:=aa.out.below aj;replace c8:=hid c8;replace bk:=hid bk;replace bi:=hid bi
  by_cases he:pe=0
  ·subst he
   have ae:=ac.out;rw [if_neg (by simp)] at ae;replace ae:=hid ae;have f9:=ah.frozen;have l9:=ah.lt;obtain⟨bb,am⟩:∃x,x=(w9.setCell ⟨lb,37,none⟩ (.bool true)).setCell ⟨lb,2,none⟩ (.string (bs px)):=⟨_,rfl⟩;have dy:Blk bb w.heap.size #[.int .i64 inst,.int .u64 (ballot:Nat)] 171:=by rw [am];exact(di.other (p:=⟨lb,37,none⟩) (λe=>b1 e.symm) _).other (p:=⟨lb,2,none⟩) (λe=>b1 e.symm) _
   have c2:Mod (λk=>k=lb) w9 bb:=by rw [am];exact((Mod.refl (λk=>k=lb) w9).thenSet (p:=⟨lb,37,none⟩) rfl _).thenSet (p:=⟨lb,2,none⟩) rfl _
   have b0:Blk bb lb (zE (.slice sa V sc) {l8 with asked:=true,value:=px}).toArray 175:=by
    rw [am];exact(ah.setL (zbA c6 c0 true)).setL (zbE (l:={l8 with asked:=true}) px)
   have ax:Row w9 317 3 (.slice sa V sc) l8.promises.length (l8.promises.flatMap zN):=by rw [hV'.out];exact bi.out
   obtain⟨b7,dc⟩:=Ju (l':={l8 with asked:=true,value:=px}) ah ax d1 c8.out c2 b0 rfl c6 c0;have c9:=dp.setLead c5 b7 dc;have cb:=bl.trans (zp.wrap aj (b7.mono (Sub.child t (i+32))));have m9:=di.cell;have dr:=ah.cellL (vg (l:=l8) (pv:=.slice sa V sc) c6 c0 1);have ec:w9.cell? ⟨lb,2,none⟩=some (.string (bs l8.value)):=ah.cell 2;simp only [Nat.reduceAdd] at dr;have cy:w.heap.size≠lb:=λe=>b1 e.symm
   replace am:=hid am;replace ax:=hid ax;go_wp2_with fail
   rw [← am.out];clear m9 cy dr ec;obtain⟨bz,bm⟩:∃bz,bz=bb.alloc (.cells #[.string (bs px)] 9):=⟨_,rfl⟩;have b9:Below bb.heap.size bb bz:=by rw [bm];exact zi (N2 _ _) _
   have c3:bb.heap.size=w9.heap.size:=by rw [am.out];simp
   have d8:Blk bz w9.heap.size #[.string (bs px)] 9:=by rw [bm,← c3];exact Blk.new rfl
   have b4:=(zk.loc B K tv lp _ t).cut c9 b9;simp only [zbB] at b4;have df:=Z9 B K _ t ht _ 5 i (by omega) hi inst ballot (.slice (some ⟨w9.heap.size,0,none⟩) 1 1) [px] bz ⟨tv,lp,b4⟩ ⟨hg.notes,hg.last,hg.n0⟩ (jD (n:=1) (size:=1) (cap:=1) d8 rfl (N0 1)) (by simp) (by simp;omega) (λa l' c e=>by cases e;exact Own.cut_new (by show bb.heap.size<=w9.heap.size;omega));rw [show [px].flatten=px by simp] at df;unfold xX at df;rw [← bm];refine df.mono ?_;rintro e eg⟨rfl,c4,cg,cf⟩;go_wp2;go_end0
   refine⟨rfl,c4,zp.wrap a5 (by rw [ba];exact cb.trans (zp.wrap b9 cg)),?_⟩;rw [ae.out,ap,az.out];rw [bg,a4.out] at cf;exact cf
  have eh:(pe==0)=false:=by simpa using he
  have ae:=ac.out;rw [if_pos he] at ae;replace ae:=hid ae;clear he;go_wp2;go_end0
  refine⟨rfl,_,zp.wrap a5 (by rw [ba];exact bl.trans (zp.wrap aj (zp.refl _ _ _))),?_⟩;rw [ae.out,ap,az.out];have:=dp;rw [bt,bg,a4.out] at this;exact⟨tv,lp,this⟩
