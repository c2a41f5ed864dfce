/- PARTS OF THE PROOF. -/
import Derived.Test.YtofppfoioodblaaGreatDoorTT21
import Derived.Test.YtofppfoioodblaaGreatDoorTT31
import Derived.Test.YtofppfoioodblaaGreatDoorTT37
set_option maxRecDepth 8000
set_option maxHeartbeats 4000000
open Go.Proofs.Tryz
namespace Go.Proofs.YtofppfoioodblaaGreatDoor
open Go Go.RowKit Go.Shelf Go.Extern.Stop Go.Stop Go.Extern
attribute [local go_sem] Oper.semAt_some zv zm
def JV(l:List jl)(own:List UInt8):jl:=l.foldl (λ(b:jl) v=>if b.2.1<v.2.1 then v else b) (0,0,own)
theorem zjf {w W0 W:World}{v:Value}{xs:List Value}{n rb:Nat}(h:Src W0 v 3 n xs)(hb:∀a m c,v=.slice (some a) m c->a.block<w.heap.size∨n=0)(hm:Mod (λk=>k=rb) W0 W)(hr:w.heap.size<=rb)(hw:w.heap.size<=W0.heap.size):Src W v 3 n xs:=by
 refine⟨h.1,?_⟩
 rcases h.2 with h0|⟨b,off,cap,rfl,hc,hr⟩
 ·exact .inl h0
 ·refine .inr ⟨b,off,cap,rfl,hc,λj u hu=>?_⟩
  rcases hb _ _ _ rfl with h1|h1
  ·have h2:b<w.heap.size:=h1
   exact(hm.cell (p:=⟨b,off+j,none⟩) (by show b<_;omega) (by show¬b=_;omega)).trans (hr j u hu)
  ·have:=(N6.1 hu).1
   rw [h.1,h1] at this;simp at this
theorem zfN(l:List jl)(x:jl)(own:List UInt8):JV (l++ [x]) own=if(JV l own).2.1<x.2.1 then x else JV l own:=by
 unfold JV;rw [List.foldl_append];rfl
def zk8(l:List jl)(own:List UInt8)(rb:Nat)(W0:World)(k:Nat)(X:Nat->Prop)(W:World):Prop:=
 Fr (λk=>k=rb) W0 X W/\Blk W rb #[.int .u64 ((JV (l.take k) own).1:Nat),.int .u64 ((JV (l.take k) own).2.1:Nat),.string (bs (JV (l.take k) own).2.2)] 317
theorem zk8.step {l:List jl}{own:List UInt8}{rb:Nat}{W0:World}{k:Nat}{X X':Nat->Prop}{W W':World}(h:zk8 l own rb W0 k X W)(hr:rb<W0.heap.size)(hm:Mod X W W')(hx:∀k,X' k->X k∨(W.heap.size<=k/\k<W'.heap.size)):zk8 l own rb W0 k X' W':=
 ⟨h.1.step hm hx,h.2.kept (h.1.block hm hr)⟩
theorem zbU(n:Nat)(hn:1<=n/\n<=16)(v:Value)(l:List jl)(own:List UInt8)(w:World)(hv:Src w v 3 l.length (l.flatMap zK))(hl:l.length<=1000):Calls prog 204 #[.int .i64 n,v,.string (bs own)] w λe w'=>e=.returned (.tuple #[.string (bs (qI n l own).1),.int .i64 (qI n l own).2])/\Below w.heap.size w w':=by
 have har:=λW hW=>zbT v l W hW hl
 have hvs:∃a c,v=.slice a l.length c:=by
  rcases hv.2 with⟨rfl,h0⟩|⟨b,off,cap,rfl, -⟩
  ·rw [h0];exact⟨_,_,rfl⟩
  ·exact⟨_,_,rfl⟩
 obtain⟨va,vc,rfl⟩:=hvs;have t1:decide ((n:Int)<1)=false:=by simp;omega
 have t2:decide ((16:Int)<(n:Int))=false:=by simp;omega
 have hw2:IntKind.i64.wrap (2*(l.length:Int))=((2*l.length:Nat):Int):=by rw [N8];omega
 have hvA:=hv;unfold qI
 by_cases hc:n<l.length∨2*l.length<=n
 ·rw [if_pos hc]
  by_cases h1:n<l.length
  ·have t3:decide (n<l.length)=true:=by simpa using h1
   clear hc h1 hn hl har;refine zl func204 rfl ?_;simp only [ntmps204,R8,Nat.reduceAdd,Nat.reduceSub];go_wp2;exact jI (v:=.tuple #[.string (bs []),.int .i64 81]) (by simp [results,Tryz.results204,go_sem];rfl) ⟨rfl,N2 _ _⟩
  ·have t3:decide (n<l.length)=false:=by simpa using h1
   have t4:decide (2*(l.length:Int)<=(n:Int))=true:=by simp;omega
   clear hc h1 hn hl har;refine zl func204 rfl ?_;simp only [ntmps204,R8,Nat.reduceAdd,Nat.reduceSub];go_wp2;exact jI (v:=.tuple #[.string (bs []),.int .i64 81]) (by simp [results,Tryz.results204,go_sem];rfl) ⟨rfl,N2 _ _⟩
 ·rw [if_neg hc]
  rw [not_or] at hc;have t3:decide (n<l.length)=false:=by simpa using hc.1
  have t4:decide (2*(l.length:Int)<=(n:Int))=false:=by simp;omega
  clear hc hn;replace har:=hid har
  cases hal:l.all j7 with
  |false=>
   rw [if_pos (.inl rfl)];rw [hal] at har;replace hal:=hid hal;refine zl func204 rfl ?_;simp only [ntmps204,R8,Nat.reduceAdd,Nat.reduceSub];go_wp2_with fail
   refine(har.out _ hvA).mono ?_;rintro e w1⟨rfl,hb1⟩;go_wp2;exact jI (v:=.tuple #[.string (bs []),.int .i64 2]) (by simp [results,Tryz.results204,go_sem];rfl) ⟨rfl,hb1⟩
  |true=>
   rw [hal] at har;replace hal:=hid hal;have hft:=λb W hW=>VZ b own W hW
   replace hft:=hid hft
   by_cases ho:4000<own.length
   ·rw [if_pos (.inr ho)]
    refine zl func204 rfl ?_;simp only [ntmps204,R8,Nat.reduceAdd,Nat.reduceSub];go_wp2_with fail
    refine(har.out _ hvA).mono ?_;rintro e w1⟨rfl,hb1⟩;go_wp2_with fail
    refine(hft.out _ _ (by simp)).mono ?_;rintro e w2⟨rfl,rfl⟩;have t5:decide (own.length<=4000)=false:=by simp;omega
    clear ho;go_wp2;exact jI (v:=.tuple #[.string (bs []),.int .i64 2]) (by simp [results,Tryz.results204,go_sem];rfl) ⟨rfl,pbx⟩
   ·rw [if_neg (by simp;omega)]
    have t5:decide (own.length<=4000)=true:=by simp;omega
    clear ho;replace hl:=hid hl;refine zl func204 rfl ?_;simp only [ntmps204,R8,Nat.reduceAdd,Nat.reduceSub];go_wp2_with fail
    refine(har.out _ hvA).mono ?_;rintro e w1⟨rfl,hb1⟩;go_wp2_with fail
    refine(hft.out _ _ (by simp)).mono ?_;rintro e w2⟨rfl,rfl⟩
    go_wp2_with (go_at_call 252;refine(Xn _ ⟨_,_,_,rfl⟩ _).mono ?_;rintro e w2 ⟨rfl,rfl⟩)
    obtain⟨W0,hW0⟩:∃W0,W0=((w1.alloc (.cells #[.string (bs own)] 9)).alloc (.cells #[.int .u64 0,.int .u64 0,.string (bs own)] 317)).alloc (.cells #[.slice va l.length vc] 172):=⟨_,rfl⟩;have hb0:Below w1.heap.size w1 W0:=by rw [hW0];exact pbx
    have hz0:W0.heap.size=w1.heap.size+3:=by rw [hW0];simp
    have kr:Blk W0 (w1.heap.size+1) #[.int .u64 0,.int .u64 0,.string (bs own)] 317:=by rw [hW0];exact bkx
    have kc:Blk W0 (w1.heap.size+1+1) #[.slice va l.length vc] 172:=by rw [hW0];exact Blk.new (by simp)
    have hvw:=hvA.below hb1;have hs0:=hvw.below hb0
    have hsb:∀a n c,(Value.slice va l.length vc)=.slice (some a) n c->a.block<w1.heap.size∨l.length=0:=λa n c e=>by
     rcases hvw.2 with⟨h,h0⟩|⟨b,off,cap,h, -,hr⟩
     ·exact .inr h0
     ·by_cases h0:l.length=0
      ·exact .inr h0
      ·left
       rw [h] at e;cases e
       obtain⟨x,hx⟩:∃x,(l.flatMap zK)[0]?=some x:=⟨_,N3 (by rw [JQ];omega)⟩;exact jH (hr 0 x hx)
    rw [← hW0];clear hW0
    refine yS (gf:=304) (lb:=#[.pointer (some ⟨w1.heap.size+1+1,0,none⟩)]) rfl (enters_of func304 (by kernel_rfl) rfl)
     (YZ (w1.heap.size+1+1) _ l (by have:=hl.out;omega)) (λ_=>rfl)
     (λk X W=>zk8 l own (w1.heap.size+1) W0 k X W)
     (λc X W=>False)
     (λk X X' W W' h hm hx=>h.step (by omega) hm hx)
     (λc s X X' W W' h hm hx=>h)
     (λk X W h=>⟨kc.mod h.1.2 (by omega),zjf hs0 hsb h.1.2 (by omega) (by omega)⟩)
     (λk X W h=>⟨h.1.2.size,λk hk=>(h.1.1 k hk).2⟩)
     ⟨Fr.refl _ _,kr⟩
     9 317 (λx=> #[.int .u64 (x.1:Nat),.int .u64 (x.2.1:Nat),.string (bs x.2.2)]) ?assign ?body ?done ?stop
    case assign=>
     intro l' x W K hK;rw [zZ] at hK⊢;unfold yN at hK⊢
     gi_wp2
     exact hK
    case body=>
     rintro l' k x cb X X1 W1 W h1⟨hfr,kb⟩ hnx hcb hcw hXc kx hXl _;rw [zZ];unfold yN
     have htk:JV (l.take (k+1)) own=if(JV (l.take k) own).2.1<x.2.1 then x else JV (l.take k) own:=by
      rw [List.take_add_one,hnx];exact zfN _ _ _
     obtain⟨best,hbest⟩:∃best,JV (l.take k) own=best:=⟨_,rfl⟩;rw [hbest] at htk kb;clear hbest;obtain⟨x1,x2,x3⟩:=x;obtain⟨b1,b2,b3⟩:=best;simp only at kx kb htk;replace hnx:=hid hnx;replace hvA:=hid hvA;clear hvw hv;have c0:=kx.cell;have lx:=kx.lt;have fx:=kx.frozen;have e0:=kb.cell;have lb:=kb.lt;have fb:=kb.frozen
     by_cases hq:b2<x2
     ·have t6:decide (b2<x2)=true:=by simpa using hq
      rw [if_pos hq] at htk;clear hq;replace htk:=hid htk
      gi_wp2
      have hm:Mod (λk=>k=w1.heap.size+1) W (((W.setCell ⟨w1.heap.size+1,0,none⟩ (.int .u64 x1)).setCell ⟨w1.heap.size+1,1,none⟩ (.int .u64 x2)).setCell ⟨w1.heap.size+1,2,none⟩ (.string (bs x3))):=(((Mod.refl (λk=>k=w1.heap.size+1) W).thenSet (p:=⟨w1.heap.size+1,0,none⟩) rfl _).thenSet (p:=⟨w1.heap.size+1,1,none⟩) rfl _).thenSet (p:=⟨w1.heap.size+1,2,none⟩) rfl _;exact⟨⟨hfr.mod hm (λk _ h=>h),by rw [htk.out];exact((kb.set (o:=0) _).set (o:=1) _).set (o:=2) _⟩,jB.of_mod hm (λk _ hX he=>by have:=hfr.1 k hX;omega)⟩
     ·have t6:decide (b2<x2)=false:=by simpa using hq
      rw [if_neg hq] at htk;clear hq;replace htk:=hid htk
      gi_wp2
      exact⟨⟨hfr,by rw [htk.out];exact kb⟩,jB.refl _ _⟩
    case done=>
     rintro D k X W hD hXD hfin⟨hfr,kb⟩ hdef;obtain rfl:k=l.length:=hfin;rw [List.take_length] at kb;have eb:=kb.cell;have hbW:Below w1.heap.size w1 W:=hb0.trans (hfr.below (by omega) (λk h=>by omega));go_wp2;exact z8 (D:=D) (v:=.tuple #[.string (bs (JV l own).2.2),.int .i64 0]) hdef (by simp [results,Tryz.results204,go_sem]) ⟨rfl,zN (zg hb1 hbW) (by have:=hb1.size;omega) _⟩
    case stop=>
     rintro D c X W hD hXD h hdef;exact h.elim
theorem zhH(b i:Nat)(hi:i<16)(w:World):Calls prog 95 #[.int .u64 b,.int .i64 i] w λe w'=>e=.returned (.tuple #[.int .u64 (ju b i).1,.int .i64 (ju b i).2])/\w'=w:=by
 have t1:decide ((i:Int)<0)=false:=by simp
 have t2:decide ((16:Int)<=(i:Int))=false:=by simp;omega
 unfold ju
 by_cases hb:1152921504606846976<b
 ·rw [if_pos (.inr hb)]
  have t3:decide (1152921504606846976<(b:Int))=true:=by simp;omega
  have t4:decide (1152921504606846976<b)=true:=by simpa using hb
  clear hb hi
  go_enter func95,ntmps95
  go_wp2;go_ret2
  exact⟨rfl,rfl⟩
 ·have t3:decide (1152921504606846976<(b:Int))=false:=by simp;omega
  have t4:decide (1152921504606846976<b)=false:=by simpa using hb
  rw [if_neg (by omega)]
  have hor:(b / 16*16)|||i=b / 16*16+i:=by
   have:=Nat.two_pow_add_eq_or_of_lt (i:=4) (b:=i) (by omega) (b / 16);rw [Nat.mul_comm (b / 16) 16];exact this.symm
  have q1:IntKind.u64.wrap ((b:Int) / 16*16)=(b:Int) / 16*16:=by rw [IntKind.wrap_u64];omega
  have q2:IntKind.u64.wrap (i:Int)=(i:Int):=by rw [IntKind.wrap_u64];omega
  have q3:bits .or .u64 ((b:Int) / 16*16) (i:Int)=((b / 16*16+i:Nat):Int):=by
   have:=V6 (b / 16*16) i (by omega) (by omega);rw [hor] at this;rw [← this];norm_cast
  obtain⟨X,hX⟩:∃X,b / 16*16+i=X:=⟨_,rfl⟩;have q4:IntKind.u64.wrap ((X:Int)+16)=((X+16:Nat):Int):=by rw [IntKind.wrap_u64];omega
  rw [hX] at q3⊢;clear hb hi hor hX
  by_cases hx:X<=b
  ·have t5:decide (X<=b)=true:=by simpa using hx
   rw [if_pos hx];clear hx
   go_enter func95,ntmps95
   go_wp2;go_ret2
   exact⟨rfl,rfl⟩
  ·have t5:decide (X<=b)=false:=by simpa using hx
   rw [if_neg hx];clear hx
   go_enter func95,ntmps95
   go_wp2;go_ret2
   exact⟨rfl,rfl⟩
