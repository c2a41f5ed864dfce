/- PARTS OF THE PROOF. -/
import Derived.Test.YtobnhnidffipjaaGreatDoorQ21
import Derived.Test.YtobnhnidffipjaaGreatDoorQ31
import Derived.Test.YtobnhnidffipjaaGreatDoorQ38
set_option maxRecDepth 8000
set_option maxHeartbeats 4000000
open Go.Proofs.Tryz
namespace Go.Proofs.YtobnhnidffipjaaGreatDoor
open Go Go.RowKit Go.Shelf Go.Extern.Stop Go.Stop Go.Extern
attribute [local go_sem] Oper.semAt_some zw zn
theorem zjY {w W0 W:World}{v:Value}{xs:List Value}{n:Nat}(h:Src W0 v 3 n xs)(hb:∀a m c,v=.slice (some a) m c->a.block<w.heap.size∨n=0)(hm:Mod (λk=>k=w.heap.size) W0 W)(hw:w.heap.size<=W0.heap.size):Src W v 3 n xs:=by
 refine⟨h.1,?_⟩
 rcases h.2 with h0|⟨b,off,cap,rfl,hc,hr⟩
 ·exact .inl h0
 ·refine .inr ⟨b,off,cap,rfl,hc,λj u hu=>?_⟩
  rcases hb _ _ _ rfl with h1|h1
  ·have h2:b<w.heap.size:=h1
   exact(hm.cell (p:=⟨b,off+j,none⟩) (by show b<_;omega) (by show¬b=_;omega)).trans (hr j u hu)
  ·have:=(N6.1 hu).1
   rw [h.1,h1] at this;simp at this
def zkJ(l:List jn)(rb:Nat)(W0:World)(k:Nat)(X:Nat->Prop)(W:World):Prop:=
 Fr (λk=>k=rb) W0 X W/\Blk W rb #[.bool true] 4/\(l.take k).all ys=true
theorem zkJ.step {l:List jn}{rb:Nat}{W0:World}{k:Nat}{X X':Nat->Prop}{W W':World}(h:zkJ l rb W0 k X W)(hr:rb<W0.heap.size)(hm:Mod X W W')(hx:∀k,X' k->X k∨(W.heap.size<=k/\k<W'.heap.size)):zkJ l rb W0 k X' W':=
 ⟨h.1.step hm hx,h.2.1.kept (h.1.block hm hr),h.2.2⟩
theorem zbR(v:Value)(l:List jn)(w:World)(hv:Src w v 3 l.length (l.flatMap zL))(hl:l.length<=1000):Calls prog 206 #[v] w λe w'=>e=.returned (.bool (l.all ys))/\Below w.heap.size w w':=by
 refine zl func206 rfl ?_;simp only [ntmps206,R8,Nat.reduceAdd,Nat.reduceSub];go_wp2;go_step3;go_wp2;go_step3
 go_wp2_with (go_at_call 208;refine(Xs v (by rcases hv.2 with⟨rfl, -⟩|⟨b,off,cap,rfl, -⟩<;>exact⟨_,_,_,rfl⟩) _).mono ?_;rintro e w1 ⟨rfl,rfl⟩)
 obtain⟨W0,hW0⟩:∃W0,W0=(w.alloc (.cells #[.bool true] 4)).alloc (.cells #[v] 149):=⟨_,rfl⟩;have hb0:Below w.heap.size w W0:=by rw [hW0];exact pbx
 have hz0:W0.heap.size=w.heap.size+2:=by rw [hW0];simp
 have kr:Blk W0 w.heap.size #[.bool true] 4:=by rw [hW0];exact bkx
 have kc:Blk W0 (w.heap.size+1) #[v] 149:=by rw [hW0];exact Blk.new (by simp)
 have hs0:=hv.below hb0
 have hsb:∀a n c,v=.slice (some a) n c->a.block<w.heap.size∨l.length=0:=λa n c e=>by
  rcases hv.2 with⟨h,h0⟩|⟨b,off,cap,h, -,hr⟩
  ·exact .inr h0
  ·by_cases h0:l.length=0
   ·exact .inr h0
   ·left
    rw [h] at e;cases e
    obtain⟨x,hx⟩:∃x,(l.flatMap zL)[0]?=some x:=⟨_,N3 (by rw [J2];omega)⟩;exact jH (hr 0 x hx)
 rw [← hW0];clear hW0
 refine yR (gf:=249) (lb:=#[.pointer (some ⟨w.heap.size+1,0,none⟩)]) rfl (enters_of func249 (by kernel_rfl) rfl)
  (YZ (w.heap.size+1) v l (by omega)) (λ_=>rfl)
  (λk X W=>zkJ l w.heap.size W0 k X W)
  (λc X W=>c=.exit 0/\Fr (λk=>k=w.heap.size) W0 X W/\Blk W w.heap.size #[.bool false] 4/\l.all ys=false)
  (λk X X' W W' h hm hx=>h.step (by omega) hm hx)
  (λc s X X' W W' h hm hx=>⟨h.1,h.2.1.step hm hx,h.2.2.1.kept (h.2.1.block hm (by omega)),h.2.2.2⟩)
  (λk X W h=>⟨kc.mod h.1.2 (by omega),zjY hs0 hsb h.1.2 (by omega)⟩)
  (λk X W h=>⟨h.1.2.size,λk hk=>(h.1.1 k hk).2⟩)
  ⟨Fr.refl _ _,kr,rfl⟩
  4 272 (λx=> #[.int .u64 (x.1:Nat),.int .u64 (x.2.1:Nat),.string (bs x.2.2)]) ?assign ?body ?done ?stop
 case assign=>
  intro l' x W K hK;rw [zR] at hK⊢;unfold yJ at hK⊢
  gi_wp2
  exact hK
 case body=>
  rintro l' k x cb X X1 W1 W h1⟨hfr,kb,hall⟩ hnx hcb hcw hXc kx hXl _;have hri:=λW=>Yo x W
  unfold yJ at hri;rw [zR];unfold yJ
  have htk:(l.take (k+1)).all ys=((l.take k).all ys && ys x):=by
   rw [List.take_add_one,hnx];simp
  have hmem:x∈l:=List.mem_of_getElem? hnx;have c0:=kx.cell;obtain⟨x1,x2,x3⟩:=x;simp only at c0 hri kx;replace hri:=G hri;replace hnx:=G hnx
  cases hq:ys (x1,x2,x3)with
  |true=>
   rw [hq] at htk hri
   gi_wp2_with (gi_at_call 248;refine(inRound _ _ (hri.out _)).mono ?_;rintro e w1 ⟨rfl,hb1⟩)
   have hm:Mod (λk=>k=w.heap.size) W w1:=Mod.of_below _ hb1;exact⟨⟨hfr.mod hm (λk _ h=>h),kb.call hb1,by rw [htk,hall];rfl⟩,ju.of_mod (Mod.of_below (λ_=>False) hb1) (λk _ hX he=>he)⟩
  |false=>
   rw [hq] at hri
   have hal:l.all ys=false:=by
    rw [List.all_eq_false];exact⟨_,hmem,by rw [hq];simp⟩
   gi_wp2_with (gi_at_call 248;refine(inRound _ _ (hri.out _)).mono ?_;rintro e w1 ⟨rfl,hb1⟩;have kb1:=kb.call hb1;have fb1:=kb1.frozen;have eb1:=kb1.cell;have lb1:=kb1.lt)
   have hm:Mod (λk=>k=w.heap.size) W (w1.setCell ⟨w.heap.size,0,none⟩ (.bool false)):=(Mod.of_below (λk=>k=w.heap.size) hb1).thenSet (p:=⟨w.heap.size,0,none⟩) rfl _;exact⟨⟨rfl,hfr.mod hm (λk _ h=>h),kb1.set _,hal⟩,ju.of_mod hm (λk _ hX he=>by have:=hfr.1 k hX;omega)⟩
 case done=>
  rintro D k X W hD hXD hfin⟨hfr,kb,hall⟩ hdef;obtain rfl:k=l.length:=hfin;rw [List.take_length] at hall;have eb:=kb.cell;have hbW:Below w.heap.size w W:=hb0.trans (hfr.below (by omega) (λk h=>by omega));go_wp2;rw [Exit.noGoto_ret];go_wp2;exact zS (D:=D) (v:=.bool true) hdef (by simp [results,Tryz.results206,go_sem]) ⟨by rw [hall],zF hbW (by omega) _⟩
 case stop=>
  rintro D c X W hD hXD⟨rfl,hfr,kb,hall⟩ hdef;have eb:=kb.cell;have hbW:Below w.heap.size w W:=hb0.trans (hfr.below (by omega) (λk h=>by omega));go_wp2;rw [Exit.noGoto_ret];go_wp2;exact zS (D:=D) (v:=.bool false) hdef (by simp [results,Tryz.results206,go_sem]) ⟨by rw [hall],zF hbW (by omega) _⟩
def J7(l:List jn)(own:List UInt8):jn:=l.foldl (λ(b:jn) v=>if b.2.1<v.2.1 then v else b) (0,0,own)
theorem ziT {w W0 W:World}{v:Value}{xs:List Value}{n rb:Nat}(h:Src W0 v 3 n xs)(hb:∀a m c,v=.slice (some a) m c->a.block<w.heap.size∨n=0)(hm:Mod (λk=>k=rb) W0 W)(hr:w.heap.size<=rb)(hw:w.heap.size<=W0.heap.size):Src W v 3 n xs:=by
 refine⟨h.1,?_⟩
 rcases h.2 with h0|⟨b,off,cap,rfl,hc,hr⟩
 ·exact .inl h0
 ·refine .inr ⟨b,off,cap,rfl,hc,λj u hu=>?_⟩
  rcases hb _ _ _ rfl with h1|h1
  ·have h2:b<w.heap.size:=h1
   exact(hm.cell (p:=⟨b,off+j,none⟩) (by show b<_;omega) (by show¬b=_;omega)).trans (hr j u hu)
  ·have:=(N6.1 hu).1
   rw [h.1,h1] at this;simp at this
theorem zfT(l:List jn)(x:jn)(own:List UInt8):J7 (l++ [x]) own=if(J7 l own).2.1<x.2.1 then x else J7 l own:=by
 unfold J7;rw [List.foldl_append];rfl
def zkK(l:List jn)(own:List UInt8)(rb:Nat)(W0:World)(k:Nat)(X:Nat->Prop)(W:World):Prop:=
 Fr (λk=>k=rb) W0 X W/\Blk W rb #[.int .u64 ((J7 (l.take k) own).1:Nat),.int .u64 ((J7 (l.take k) own).2.1:Nat),.string (bs (J7 (l.take k) own).2.2)] 272
theorem zkK.step {l:List jn}{own:List UInt8}{rb:Nat}{W0:World}{k:Nat}{X X':Nat->Prop}{W W':World}(h:zkK l own rb W0 k X W)(hr:rb<W0.heap.size)(hm:Mod X W W')(hx:∀k,X' k->X k∨(W.heap.size<=k/\k<W'.heap.size)):zkK l own rb W0 k X' W':=
 ⟨h.1.step hm hx,h.2.kept (h.1.block hm hr)⟩
theorem zbS(n:Nat)(hn:1<=n/\n<=16)(v:Value)(l:List jn)(own:List UInt8)(w:World)(hv:Src w v 3 l.length (l.flatMap zL))(hl:l.length<=1000):Calls prog 168 #[.int .i64 n,v,.string (bs own)] w λe w'=>e=.returned (.tuple #[.string (bs (J0 n l own).1),.int .i64 (J0 n l own).2])/\Below w.heap.size w w':=by
 have har:=λW hW=>zbR v l W hW hl
 have hvs:∃a c,v=.slice a l.length c:=by
  rcases hv.2 with⟨rfl,h0⟩|⟨b,off,cap,rfl, -⟩
  ·rw [h0];exact⟨_,_,rfl⟩
  ·exact⟨_,_,rfl⟩
 obtain⟨va,vc,rfl⟩:=hvs;have t1:decide ((n:Int)<1)=false:=by simp;omega
 have t2:decide ((16:Int)<(n:Int))=false:=by simp;omega
 have hw2:IntKind.i64.wrap (2*(l.length:Int))=((2*l.length:Nat):Int):=by rw [N8];omega
 have hvA:=hv;unfold J0
 by_cases hc:n<l.length∨2*l.length<=n
 ·rw [if_pos hc]
  by_cases h1:n<l.length
  ·have t3:decide (n<l.length)=true:=by simpa using h1
   clear hc h1 hn hl har;refine zl func168 rfl ?_;simp only [ntmps168,R8,Nat.reduceAdd,Nat.reduceSub];go_wp2;exact jw (v:=.tuple #[.string (bs []),.int .i64 81]) (by simp [results,Tryz.results168,go_sem];rfl) ⟨rfl,N2 _ _⟩
  ·have t3:decide (n<l.length)=false:=by simpa using h1
   have t4:decide (2*(l.length:Int)<=(n:Int))=true:=by simp;omega
   clear hc h1 hn hl har;refine zl func168 rfl ?_;simp only [ntmps168,R8,Nat.reduceAdd,Nat.reduceSub];go_wp2;exact jw (v:=.tuple #[.string (bs []),.int .i64 81]) (by simp [results,Tryz.results168,go_sem];rfl) ⟨rfl,N2 _ _⟩
 ·rw [if_neg hc]
  rw [not_or] at hc;have t3:decide (n<l.length)=false:=by simpa using hc.1
  have t4:decide (2*(l.length:Int)<=(n:Int))=false:=by simp;omega
  clear hc hn;replace har:=G har
  cases hal:l.all ys with
  |false=>
   rw [if_pos (.inl rfl)];rw [hal] at har;replace hal:=G hal;refine zl func168 rfl ?_;simp only [ntmps168,R8,Nat.reduceAdd,Nat.reduceSub];go_wp2_with fail
   refine(har.out _ hvA).mono ?_;rintro e w1⟨rfl,hb1⟩;go_wp2;exact jw (v:=.tuple #[.string (bs []),.int .i64 2]) (by simp [results,Tryz.results168,go_sem];rfl) ⟨rfl,hb1⟩
  |true=>
   rw [hal] at har;replace hal:=G hal;have hft:=λb W hW=>V2 b own W hW
   replace hft:=G hft
   by_cases ho:4000<own.length
   ·rw [if_pos (.inr ho)]
    refine zl func168 rfl ?_;simp only [ntmps168,R8,Nat.reduceAdd,Nat.reduceSub];go_wp2_with fail
    refine(har.out _ hvA).mono ?_;rintro e w1⟨rfl,hb1⟩;go_wp2_with fail
    refine(hft.out _ _ (by simp)).mono ?_;rintro e w2⟨rfl,rfl⟩;have t5:decide (own.length<=4000)=false:=by simp;omega
    clear ho;go_wp2;exact jw (v:=.tuple #[.string (bs []),.int .i64 2]) (by simp [results,Tryz.results168,go_sem];rfl) ⟨rfl,pbx⟩
   ·rw [if_neg (by simp;omega)]
    have t5:decide (own.length<=4000)=true:=by simp;omega
    clear ho;replace hl:=G hl;refine zl func168 rfl ?_;simp only [ntmps168,R8,Nat.reduceAdd,Nat.reduceSub];go_wp2_with fail
    refine(har.out _ hvA).mono ?_;rintro e w1⟨rfl,hb1⟩;go_wp2_with fail
    refine(hft.out _ _ (by simp)).mono ?_;rintro e w2⟨rfl,rfl⟩
    go_wp2_with (go_at_call 208;refine(Xs _ ⟨_,_,_,rfl⟩ _).mono ?_;rintro e w2 ⟨rfl,rfl⟩)
    obtain⟨W0,hW0⟩:∃W0,W0=((w1.alloc (.cells #[.string (bs own)] 9)).alloc (.cells #[.int .u64 0,.int .u64 0,.string (bs own)] 272)).alloc (.cells #[.slice va l.length vc] 149):=⟨_,rfl⟩;have hb0:Below w1.heap.size w1 W0:=by rw [hW0];exact pbx
    have hz0:W0.heap.size=w1.heap.size+3:=by rw [hW0];simp
    have kr:Blk W0 (w1.heap.size+1) #[.int .u64 0,.int .u64 0,.string (bs own)] 272:=by rw [hW0];exact bkx
    have kc:Blk W0 (w1.heap.size+1+1) #[.slice va l.length vc] 149:=by rw [hW0];exact Blk.new (by simp)
    have hvw:=hvA.below hb1;have hs0:=hvw.below hb0
    have hsb:∀a n c,(Value.slice va l.length vc)=.slice (some a) n c->a.block<w1.heap.size∨l.length=0:=λa n c e=>by
     rcases hvw.2 with⟨h,h0⟩|⟨b,off,cap,h, -,hr⟩
     ·exact .inr h0
     ·by_cases h0:l.length=0
      ·exact .inr h0
      ·left
       rw [h] at e;cases e
       obtain⟨x,hx⟩:∃x,(l.flatMap zL)[0]?=some x:=⟨_,N3 (by rw [J2];omega)⟩;exact jH (hr 0 x hx)
    rw [← hW0];clear hW0
    refine yR (gf:=249) (lb:=#[.pointer (some ⟨w1.heap.size+1+1,0,none⟩)]) rfl (enters_of func249 (by kernel_rfl) rfl)
     (YZ (w1.heap.size+1+1) _ l (by have:=hl.out;omega)) (λ_=>rfl)
     (λk X W=>zkK l own (w1.heap.size+1) W0 k X W)
     (λc X W=>False)
     (λk X X' W W' h hm hx=>h.step (by omega) hm hx)
     (λc s X X' W W' h hm hx=>h)
     (λk X W h=>⟨kc.mod h.1.2 (by omega),ziT hs0 hsb h.1.2 (by omega) (by omega)⟩)
     (λk X W h=>⟨h.1.2.size,λk hk=>(h.1.1 k hk).2⟩)
     ⟨Fr.refl _ _,kr⟩
     9 272 (λx=> #[.int .u64 (x.1:Nat),.int .u64 (x.2.1:Nat),.string (bs x.2.2)]) ?assign ?body ?done ?stop
    case assign=>
     intro l' x W K hK;rw [zR] at hK⊢;unfold yJ at hK⊢
     gi_wp2
     exact hK
    case body=>
     rintro l' k x cb X X1 W1 W h1⟨hfr,kb⟩ hnx hcb hcw hXc kx hXl _;rw [zR];unfold yJ
     have htk:J7 (l.take (k+1)) own=if(J7 (l.take k) own).2.1<x.2.1 then x else J7 (l.take k) own:=by
      rw [List.take_add_one,hnx];exact zfT _ _ _
     obtain⟨best,hbest⟩:∃best,J7 (l.take k) own=best:=⟨_,rfl⟩;rw [hbest] at htk kb;clear hbest;obtain⟨x1,x2,x3⟩:=x;obtain⟨b1,b2,b3⟩:=best;simp only at kx kb htk;replace hnx:=G hnx;replace hvA:=G hvA;clear hvw hv;have c0:=kx.cell;have lx:=kx.lt;have fx:=kx.frozen;have e0:=kb.cell;have lb:=kb.lt;have fb:=kb.frozen
     by_cases hq:b2<x2
     ·have t6:decide (b2<x2)=true:=by simpa using hq
      rw [if_pos hq] at htk;clear hq;replace htk:=G htk
      gi_wp2
      have hm:Mod (λk=>k=w1.heap.size+1) W (((W.setCell ⟨w1.heap.size+1,0,none⟩ (.int .u64 x1)).setCell ⟨w1.heap.size+1,1,none⟩ (.int .u64 x2)).setCell ⟨w1.heap.size+1,2,none⟩ (.string (bs x3))):=(((Mod.refl (λk=>k=w1.heap.size+1) W).thenSet (p:=⟨w1.heap.size+1,0,none⟩) rfl _).thenSet (p:=⟨w1.heap.size+1,1,none⟩) rfl _).thenSet (p:=⟨w1.heap.size+1,2,none⟩) rfl _;exact⟨⟨hfr.mod hm (λk _ h=>h),by rw [htk.out];exact((kb.set (o:=0) _).set (o:=1) _).set (o:=2) _⟩,ju.of_mod hm (λk _ hX he=>by have:=hfr.1 k hX;omega)⟩
     ·have t6:decide (b2<x2)=false:=by simpa using hq
      rw [if_neg hq] at htk;clear hq;replace htk:=G htk
      gi_wp2
      exact⟨⟨hfr,by rw [htk.out];exact kb⟩,ju.refl _ _⟩
    case done=>
     rintro D k X W hD hXD hfin⟨hfr,kb⟩ hdef;obtain rfl:k=l.length:=hfin;rw [List.take_length] at kb;have eb:=kb.cell;have hbW:Below w1.heap.size w1 W:=hb0.trans (hfr.below (by omega) (λk h=>by omega));go_wp2;exact zS (D:=D) (v:=.tuple #[.string (bs (J7 l own).2.2),.int .i64 0]) hdef (by simp [results,Tryz.results168,go_sem]) ⟨rfl,zF (zf hb1 hbW) (by have:=hb1.size;omega) _⟩
    case stop=>
     rintro D c X W hD hXD h hdef;exact h.elim
theorem zhA(b i:Nat)(hi:i<16)(w:World):Calls prog 84 #[.int .u64 b,.int .i64 i] w λe w'=>e=.returned (.tuple #[.int .u64 (jP b i).1,.int .i64 (jP b i).2])/\w'=w:=by
 have t1:decide ((i:Int)<0)=false:=by simp
 have t2:decide ((16:Int)<=(i:Int))=false:=by simp;omega
 unfold jP
 by_cases hb:1152921504606846976<b
 ·rw [if_pos (.inr hb)]
  have t3:decide (1152921504606846976<(b:Int))=true:=by simp;omega
  have t4:decide (1152921504606846976<b)=true:=by simpa using hb
  clear hb hi
  go_enter func84,ntmps84
  go_wp2;go_ret2
  exact⟨rfl,rfl⟩
 ·have t3:decide (1152921504606846976<(b:Int))=false:=by simp;omega
  have t4:decide (1152921504606846976<b)=false:=by simpa using hb
  rw [if_neg (by omega)]
  have hor:(b / 16*16)|||i=b / 16*16+i:=by
   have:=Nat.two_pow_add_eq_or_of_lt (i:=4) (b:=i) (by omega) (b / 16);rw [Nat.mul_comm (b / 16) 16];exact this.symm
  have q1:IntKind.u64.wrap ((b:Int) / 16*16)=(b:Int) / 16*16:=by rw [IntKind.wrap_u64];omega
  have q2:IntKind.u64.wrap (i:Int)=(i:Int):=by rw [IntKind.wrap_u64];omega
  have q3:bits .or .u64 ((b:Int) / 16*16) (i:Int)=((b / 16*16+i:Nat):Int):=by
   have:=V9 (b / 16*16) i (by omega) (by omega);rw [hor] at this;rw [← this];norm_cast
  obtain⟨X,hX⟩:∃X,b / 16*16+i=X:=⟨_,rfl⟩;have q4:IntKind.u64.wrap ((X:Int)+16)=((X+16:Nat):Int):=by rw [IntKind.wrap_u64];omega
  rw [hX] at q3⊢;clear hb hi hor hX
  by_cases hx:X<=b
  ·have t5:decide (X<=b)=true:=by simpa using hx
   rw [if_pos hx];clear hx
   go_enter func84,ntmps84
   go_wp2;go_ret2
   exact⟨rfl,rfl⟩
  ·have t5:decide (X<=b)=false:=by simpa using hx
   rw [if_neg hx];clear hx
   go_enter func84,ntmps84
   go_wp2;go_ret2
   exact⟨rfl,rfl⟩
