/- PARTS OF THE PROOF. -/
import Derived.Test.YtofppfoioodblaaGreatDoorTT05
import Derived.Test.YtofppfoioodblaaGreatDoorTT21
set_option maxRecDepth 8000
set_option maxHeartbeats 4000000
open Go.Proofs.Tryz
namespace Go.Proofs.YtofppfoioodblaaGreatDoor
open Go Go.RowKit Go.Shelf Go.Extern.Stop Go.Stop Go.Extern
attribute [local go_sem] Oper.semAt_some zv zm
theorem zi0(a b:jl)(w:World):(binOp .neq 317 (.agg #[.int .u64 a.1,.int .u64 a.2.1,.string (bs a.2.2)]) (.agg #[.int .u64 b.1,.int .u64 b.2.1,.string (bs b.2.2)])).run prog w=.ok (.bool (decide (a≠b))) w:=by
 obtain⟨a1,a2,a3⟩:=a;obtain⟨b1,b2,b3⟩:=b;have hq:=zdV a3 b3;rw [run_neq_struct]
 by_cases h1:a1=b1
 ·subst h1
  by_cases h2:a2=b2
  ·subst h2
   by_cases h3:a3=b3
   ·subst h3;simp [go_sem]
   ·rw [show decide (a3=b3)=false by simpa using h3] at hq;simp [go_sem,h3,hq]
  ·have h2':¬((a2:Int)=(b2:Int)):=λe=>h2 (by omega)
   simp [go_sem,h2,h2']
 ·have h1':¬((a1:Int)=(b1:Int)):=λe=>h1 (by omega)
  simp [go_sem,h1,h1']
theorem JG {s:List UInt8}{k:UInt8}{i:Int}{b:Nat}{x:List UInt8}(h:jF s=some (k,i,b,x)):1<=i/\i<=10000/\x.length<=s.length/\b<18446744073709551616:=by
 unfold jF at h;have g1:=vW ((s.drop 5).take 4);have g2:=vW ((s.drop 9).take 4)
 split at h
 ·cases h
 ·split at h
  ·cases h
  ·rename_i hb
   have hi:zO (yn ((s.drop 1).take 4):Int)=true:=by cases h:zO (yn ((s.drop 1).take 4):Int);exact absurd (.inr h) hb;rfl
   have hi2:1<=(yn ((s.drop 1).take 4):Int)/\(yn ((s.drop 1).take 4):Int)<=10000:=by simpa [zO] using hi
   split at h
   ·split at h
    ·cases h;exact⟨hi2.1,hi2.2,by simp,by omega⟩
    ·cases h
   ·split at h
    ·split at h
     ·cases h
     ·split at h
      ·cases h
      ·split at h
       ·cases h;exact⟨hi2.1,hi2.2,by simp,by omega⟩
       ·cases h
    ·cases h
def Qk(B:Nat)(p:xn)(t:List Nat)(ow:Own)(w:World)(e:Ending)(w':World):Prop:=
 ∃v:Int,e=.returned (.int .i64 v)/\∃ow',zq t ow w ow' w'/\j4 B p t ow' w'
theorem zbr(B:Nat)(p:xn)(t:List Nat)(_ht:t≠ [])(ow:Own)(s:List UInt8)(hs:s.length<=1000000)(w:World)(h:j4 B p t ow w):
 Calls prog 160 #[.pointer (some ⟨B,0,none⟩),.string (bs s)] w (Qk B (yx p s) t ow w):=by
 have hread:=λW=>zfg s (by omega) W
 have hrp:yx p s=match jF s with
  |none=>p
  |some (k,i,b,x)=>if k=100 then(zS p i x).1 else if xO k (zM p i) b x=zM p i then p else {p with votes:=put i (xO k (zM p i) b x) p.votes} :=rfl
 have h0:=h;obtain⟨hl,vb,kb,hB,hv, -⟩:=h;unfold qf at hB;have e0:=hB.cell;have l0:=hB.lt
 cases hrr:jF s with
 |none=>
  rw [hrr] at hread hrp;simp only at hrp;rw [hrp];unfold Z2 at hread;replace hread:=hid hread;replace hrp:=hid hrp;replace hrr:=hid hrr;replace h0:=hid h0;clear hB hv
  go_enter func160,ntmps160
  go_wp2_with fail
  refine(hread.out _).mono ?_;rintro e w1⟨a,b,c,d,rfl, -,hb1⟩;go_wp2;go_ret
  exact⟨_,rfl,ow,zq.of_below t ow (zi hb1 _),(j4.loc B p t).below h0.out (zi hb1 _)⟩
 |some r=>
  obtain⟨k,i,b,x⟩:=r;rw [hrr] at hread hrp;simp only at hrp;unfold Z2 at hread;replace hread:=hid hread
  by_cases hk:k=100
  ·subst hk
   rw [if_pos rfl] at hrp;rw [hrp];obtain⟨hi1,hi2,hxl,hb64⟩:=JG hrr;have hlearn:=λW hW=>V5 B p t ow i x (by omega) W hW
   have t1:(((100:UInt8).toNat:Int)==100)=true:=rfl;replace hrp:=hid hrp;replace hrr:=hid hrr;replace h0:=hid h0;replace hlearn:=hid hlearn;unfold Y9 at hlearn;clear hB hv
   go_enter func160,ntmps160
   go_wp2_with fail
   refine(hread.out _).mono ?_;rintro e w1⟨a,b',c,d,rfl,hf,hb1⟩;obtain⟨rfl,hf2,rfl,rfl⟩:=hf _ _ _ _ rfl;obtain rfl:=hf2.symm;clear hf;go_wp2_with fail
   refine(hlearn.out _ ((j4.loc B p t).below h0.out (zi hb1 _))).mono ?_;rintro e w2⟨rfl,ow2,hs2,h2⟩;go_wp2;go_ret
   exact⟨_,rfl,ow2,(zq.of_below t ow (zi hb1 _)).trans hs2,h2⟩
  ·rw [if_neg hk] at hrp
   rw [hrp];obtain⟨hi1,hi2,hxl,hb64⟩:=JG hrr
   have hlkz:∀W,Below w.heap.size w W->(Instr.lookup 224 (.map (some vb)) (.int .i64 i) false).run prog W=.ok (yN (zM p i)) W:=λW hW=>by
    rw [← V4 p i];exact(hv.kept (hW.block vb hv.lt)).lookup xN Tryz.underlying224 (V2 W) i
   have t1:((k.toNat:Int)==100)=false:=by
    simp only [beq_eq_false_iff_ne,ne_eq];intro hc;exact hk (UInt8.toNat_inj.1 (by simpa using(by omega:k.toNat=100)))
   have t2:decide (i<=0)=false:=by simp;omega
   obtain⟨V,hV⟩:∃V,xO k (zM p i) b x=V:=⟨_,rfl⟩;have hVd:V=if k=118/\(zM p i).2.1<=b then(max (zM p i).1 b,b,x)else(max (zM p i).1 b,(zM p i).2):=by rw [← hV];rfl
   rw [hV] at hrp⊢;have hkeep:=λW hW=>Ys B p t ow i V W hW
   have hneq:=λW=>zi0 V (zM p i) W
   obtain⟨⟨p0,q0,y0⟩,hva⟩:∃v,zM p i=v:=⟨_,rfl⟩;rw [hva] at hlkz hVd hneq⊢;unfold yN at hlkz hkeep;simp only at hlkz hVd hneq;obtain⟨M,hM⟩:∃M,max p0 b=M:=⟨_,rfl⟩;have hMi:max (p0:Int) (b:Int)=(M:Int):=by rw [← hM];omega
   rw [hM] at hVd;replace hrp:=hid hrp;replace hrr:=hid hrr;replace h0:=hid h0;replace hlkz:=hid hlkz;replace hV:=hid hV;replace hva:=hid hva;replace hM:=hid hM;replace hk:=hid hk;clear hv
   by_cases h118:k=118/\q0<=b
   ·rw [if_pos h118] at hVd
    obtain⟨rfl,hqb⟩:=h118;subst hVd;have t3:(((118:UInt8).toNat:Int)==118)=true:=rfl;have t4:decide ((q0:Int)<=(b:Int))=true:=by simp;omega
    replace hkeep:=hid hkeep;replace hqb:=hid hqb
    go_enter func160,ntmps160
    go_wp2_with fail
    refine(hread.out _).mono ?_;rintro e w1⟨a,b',c,d,rfl,hf,hb1⟩;obtain⟨rfl,hf2,rfl,rfl⟩:=hf _ _ _ _ rfl;obtain rfl:=hf2.symm;clear hf;have kB1:=hB.call hb1;have eB1:=kB1.cell;have lB1:=kB1.lt;go_wp2_with fail
    refine zd [O 0,O 1,O 2,O 3,O 4,O 5,O 6] none (λw'=>Blk w' B #[.map (some vb),.map (some kb),.int .i64 (p.length:Nat),.int .i64 0] 227/\Blk w' w1.heap.size #[.int .u8 118,.int .i64 i,.int .u64 b,.string (bs x)] 337/\True) (by kernel_rfl) (by kernel_rfl) ⟨(kB1.alloc _).drew,Blk.drew (Blk.new rfl),trivial⟩ ?_
    (repeat (refine za (v:=?_) rfl rfl (λw' h=>?_) (λK k=>?_);rotate_left;obtain⟨f1,f2,f3,_⟩:=h;(try have e1:=f1.cell);(try have e2:=f2.cell);(try have e3:=f3.cell);go_simp;(try with_reducible rfl);go_simp;refine k _ ?_;clear k K))
    refine ze ?_;go_wp2_with fail
    obtain⟨W2,hW2⟩:∃W2,W2=(w1.alloc (.cells #[.int .u8 118,.int .i64 i,.int .u64 b,.string (bs x)] 337)).drew:=⟨_,rfl⟩;have hb2:Below w.heap.size w W2:=by rw [hW2];exact zo (zi hb1 _)
    have kB2:Blk W2 B #[.map (some vb),.map (some kb),.int .i64 (p.length:Nat),.int .i64 0] 227:=by rw [hW2];exact(kB1.alloc _).drew
    have kT2:Blk W2 w1.heap.size #[.int .u8 118,.int .i64 i,.int .u64 b,.string (bs x)] 337:=by rw [hW2];exact Blk.drew (Blk.new rfl)
    rw [← hW2];clear hW2 eB1 lB1 kB1;have hb3:Below w.heap.size w W2.drew:=zo hb2;refine zd [O 0,O 1,O 2,O 3,O 4,O 5,O 6,E 7,E 8] none (λw'=>Blk w' B #[.map (some vb),.map (some kb),.int .i64 (p.length:Nat),.int .i64 0] 227/\Blk w' w1.heap.size #[.int .u8 118,.int .i64 i,.int .u64 b,.string (bs x)] 337/\(Instr.lookup 224 (.map (some vb)) (.int .i64 i) false).run prog w'=.ok (.agg #[.int .u64 p0,.int .u64 q0,.string (bs y0)]) w'/\True) (by kernel_rfl) (by kernel_rfl) ⟨kB2.drew,kT2.drew,hlkz.out _ hb3,trivial⟩ ?_
    (repeat (refine za (v:=?_) rfl rfl (λw' h=>?_) (λK k=>?_);rotate_left;obtain⟨f1,f2,f3,_⟩:=h;have e1:=f1.cell;have e2:=f2.cell;(try have e3:=f3.cell);go_simp;(try with_reducible rfl);go_simp;refine k _ ?_;clear k K))
    refine zc rfl (λK hK=>?_);go_wp2;refine hK.out _ _ (λ_=>⟨kB2.drew.alloc _,kT2.drew.alloc _,hlkz.out _ (zi hb3 _),trivial⟩) ?_;clear hK K;refine zc rfl (λK hK=>?_);go_wp2;refine hK.out _ _ (λ_=>⟨kB2.drew.alloc _,kT2.drew.alloc _,hlkz.out _ (zi hb3 _),trivial⟩) ?_;clear hK K;refine ze ?_;obtain⟨W3,hW3⟩:∃W3,W3=(W2.alloc (.cells #[.int .u64 p0,.int .u64 q0,.string (bs y0)] 317)).drew:=⟨_,rfl⟩;have hbW3:Below w.heap.size w W3:=by rw [hW3];exact zo (zi hb2 _)
    have kT3:Blk W3 w1.heap.size #[.int .u8 118,.int .i64 i,.int .u64 b,.string (bs x)] 337:=by rw [hW3];exact(kT2.alloc _).drew
    have kW3:Blk W3 W2.heap.size #[.int .u64 p0,.int .u64 q0,.string (bs y0)] 317:=by rw [hW3];exact Blk.drew (Blk.new rfl)
    rw [← hW3];clear hW3 kB2 hb2 hb3 kT2;have cT3:=kT3.cell;have lT3:=kT3.lt;have cW3:=kW3.cell;have lW3:=kW3.lt;go_wp2_with fail
    refine zd [O 0,O 1,O 2,O 3,O 4,E 5,O 6,E 7] none (λw'=>Blk w' w1.heap.size #[.int .u8 118,.int .i64 i,.int .u64 b,.string (bs x)] 337/\True) (by kernel_rfl) (by kernel_rfl) ⟨(kT3.alloc _).drew,trivial⟩ ?_
    (repeat (refine za (v:=?_) rfl rfl (λw' h=>?_) (λK k=>?_);rotate_left;obtain⟨f1,f2,f3,_⟩:=h;(try have e1:=f1.cell);(try have e2:=f2.cell);(try have e3:=f3.cell);go_simp;(try with_reducible rfl);go_simp;refine k _ ?_;clear k K))
    refine zc rfl (λK hK=>?_);go_wp2;refine hK.out _ _ (λ_=>⟨(kT3.alloc _).drew,trivial⟩) ?_;clear hK K
    (repeat (refine za (v:=?_) rfl rfl (λw' h=>?_) (λK k=>?_);rotate_left;obtain⟨f1,f2,f3,_⟩:=h;(try have e1:=f1.cell);(try have e2:=f2.cell);(try have e3:=f3.cell);go_simp;(try with_reducible rfl);go_simp;refine k _ ?_;clear k K))
    refine zc rfl (λK hK=>?_);go_wp2;refine hK.out _ _ (λ_=>⟨(kT3.alloc _).drew,trivial⟩) ?_;clear hK K;refine ze ?_;obtain⟨W4,hW4⟩:∃W4,W4=(W3.alloc (.cells #[.int .u64 M,.int .u64 b,.string (bs x)] 317)).drew:=⟨_,rfl⟩;have hb4:Below w.heap.size w W4:=by rw [hW4];exact zo (zi hbW3 _)
    have kT4:Blk W4 w1.heap.size #[.int .u8 118,.int .i64 i,.int .u64 b,.string (bs x)] 337:=by rw [hW4];exact(kT3.alloc _).drew
    have kW4:Blk W4 W2.heap.size #[.int .u64 p0,.int .u64 q0,.string (bs y0)] 317:=by rw [hW4];exact(kW3.alloc _).drew
    have kX4:Blk W4 W3.heap.size #[.int .u64 M,.int .u64 b,.string (bs x)] 317:=by rw [hW4];exact Blk.drew (Blk.new rfl)
    rw [← hW4];clear hW4 cT3 lT3 cW3 lW3 kT3 kW3;have cT4:=kT4.cell;have cW4:=kW4.cell;have cX4:=kX4.cell
    by_cases hVw:((M,b,x):jl)=(p0,q0,y0)
    ·rw [show decide (((M,b,x):jl)≠(p0,q0,y0))=false by simp [hVw]] at hneq
     replace hVw:=hid hVw;go_wp2;go_ret
     exact⟨_,rfl,ow,zq.of_below t ow hb4,(j4.loc B p t).below h0.out hb4⟩
    ·rw [show decide (((M,b,x):jl)≠(p0,q0,y0))=true by simp [hVw]] at hneq
     replace hVw:=hid hVw;go_wp2_with fail
     refine(hkeep.out _ ((j4.loc B p t).below h0.out hb4)).mono ?_;rintro e w5⟨rfl,ow5,hs5,h5⟩;go_wp2;go_ret
     exact⟨_,rfl,ow5,(zq.of_below t ow hb4).trans hs5,h5⟩
   ·rw [if_neg h118] at hVd
    subst hVd;replace hkeep:=hid hkeep
    by_cases h18:k=118
    ·subst h18
     have hqb:¬q0<=b:=λh=>h118 ⟨rfl,h⟩
     have t3:(((118:UInt8).toNat:Int)==118)=true:=rfl;have t4:decide ((q0:Int)<=(b:Int))=false:=by simp;omega
     replace h118:=hid h118;replace hqb:=hid hqb
     go_enter func160,ntmps160
     go_wp2_with fail
     refine(hread.out _).mono ?_;rintro e w1⟨a,b',c,d,rfl,hf,hb1⟩;obtain⟨rfl,hf2,rfl,rfl⟩:=hf _ _ _ _ rfl;obtain rfl:=hf2.symm;clear hf;have kB1:=hB.call hb1;have eB1:=kB1.cell;have lB1:=kB1.lt;go_wp2_with fail
     refine zd [O 0,O 1,O 2,O 3,O 4,O 5,O 6] none (λw'=>Blk w' B #[.map (some vb),.map (some kb),.int .i64 (p.length:Nat),.int .i64 0] 227/\Blk w' w1.heap.size #[.int .u8 118,.int .i64 i,.int .u64 b,.string (bs x)] 337/\True) (by kernel_rfl) (by kernel_rfl) ⟨(kB1.alloc _).drew,Blk.drew (Blk.new rfl),trivial⟩ ?_
     (repeat (refine za (v:=?_) rfl rfl (λw' h=>?_) (λK k=>?_);rotate_left;obtain⟨f1,f2,f3,_⟩:=h;(try have e1:=f1.cell);(try have e2:=f2.cell);(try have e3:=f3.cell);go_simp;(try with_reducible rfl);go_simp;refine k _ ?_;clear k K))
     refine ze ?_;go_wp2_with fail
     obtain⟨W2,hW2⟩:∃W2,W2=(w1.alloc (.cells #[.int .u8 118,.int .i64 i,.int .u64 b,.string (bs x)] 337)).drew:=⟨_,rfl⟩;have hb2:Below w.heap.size w W2:=by rw [hW2];exact zo (zi hb1 _)
     have kB2:Blk W2 B #[.map (some vb),.map (some kb),.int .i64 (p.length:Nat),.int .i64 0] 227:=by rw [hW2];exact(kB1.alloc _).drew
     have kT2:Blk W2 w1.heap.size #[.int .u8 118,.int .i64 i,.int .u64 b,.string (bs x)] 337:=by rw [hW2];exact Blk.drew (Blk.new rfl)
     rw [← hW2];clear hW2 eB1 lB1 kB1;have hb3:Below w.heap.size w W2.drew:=zo hb2;refine zd [O 0,O 1,O 2,O 3,O 4,O 5,O 6,E 7,E 8] none (λw'=>Blk w' B #[.map (some vb),.map (some kb),.int .i64 (p.length:Nat),.int .i64 0] 227/\Blk w' w1.heap.size #[.int .u8 118,.int .i64 i,.int .u64 b,.string (bs x)] 337/\(Instr.lookup 224 (.map (some vb)) (.int .i64 i) false).run prog w'=.ok (.agg #[.int .u64 p0,.int .u64 q0,.string (bs y0)]) w'/\True) (by kernel_rfl) (by kernel_rfl) ⟨kB2.drew,kT2.drew,hlkz.out _ hb3,trivial⟩ ?_
     (repeat (refine za (v:=?_) rfl rfl (λw' h=>?_) (λK k=>?_);rotate_left;obtain⟨f1,f2,f3,_⟩:=h;have e1:=f1.cell;have e2:=f2.cell;(try have e3:=f3.cell);go_simp;(try with_reducible rfl);go_simp;refine k _ ?_;clear k K))
     refine zc rfl (λK hK=>?_);go_wp2;refine hK.out _ _ (λ_=>⟨kB2.drew.alloc _,kT2.drew.alloc _,hlkz.out _ (zi hb3 _),trivial⟩) ?_;clear hK K;refine zc rfl (λK hK=>?_);go_wp2;refine hK.out _ _ (λ_=>⟨kB2.drew.alloc _,kT2.drew.alloc _,hlkz.out _ (zi hb3 _),trivial⟩) ?_;clear hK K;refine ze ?_;obtain⟨W3,hW3⟩:∃W3,W3=(W2.alloc (.cells #[.int .u64 p0,.int .u64 q0,.string (bs y0)] 317)).drew:=⟨_,rfl⟩;have hbW3:Below w.heap.size w W3:=by rw [hW3];exact zo (zi hb2 _)
     have kT3:Blk W3 w1.heap.size #[.int .u8 118,.int .i64 i,.int .u64 b,.string (bs x)] 337:=by rw [hW3];exact(kT2.alloc _).drew
     have kW3:Blk W3 W2.heap.size #[.int .u64 p0,.int .u64 q0,.string (bs y0)] 317:=by rw [hW3];exact Blk.drew (Blk.new rfl)
     rw [← hW3];clear hW3 kB2 hb2 hb3 kT2;have cT3:=kT3.cell;have lT3:=kT3.lt;have cW3:=kW3.cell;have lW3:=kW3.lt;have hb4:=zi hbW3 (.cells #[.int .u64 M,.int .u64 q0,.string (bs y0)] 317)
     by_cases hVw:((M,q0,y0):jl)=(p0,q0,y0)
     ·rw [show decide (((M,q0,y0):jl)≠(p0,q0,y0))=false by simp [hVw]] at hneq
      replace hVw:=hid hVw;go_wp2;go_ret
      exact⟨_,rfl,ow,zq.of_below t ow hb4,(j4.loc B p t).below h0.out hb4⟩
     ·rw [show decide (((M,q0,y0):jl)≠(p0,q0,y0))=true by simp [hVw]] at hneq
      replace hVw:=hid hVw;go_wp2_with fail
      refine(hkeep.out _ ((j4.loc B p t).below h0.out hb4)).mono ?_;rintro e w5⟨rfl,ow5,hs5,h5⟩;go_wp2;go_ret
      exact⟨_,rfl,ow5,(zq.of_below t ow hb4).trans hs5,h5⟩
    ·have t3:((k.toNat:Int)==118)=false:=by
      simp only [beq_eq_false_iff_ne,ne_eq];intro hc;exact h18 (UInt8.toNat_inj.1 (by simpa using(by omega:k.toNat=118)))
     replace h118:=hid h118;replace h18:=hid h18
     go_enter func160,ntmps160
     go_wp2_with fail
     refine(hread.out _).mono ?_;rintro e w1⟨a,b',c,d,rfl,hf,hb1⟩;obtain⟨rfl,hf2,rfl,rfl⟩:=hf _ _ _ _ rfl;obtain rfl:=hf2.symm;clear hf;have kB1:=hB.call hb1;have eB1:=kB1.cell;have lB1:=kB1.lt;go_wp2_with fail
     refine zd [O 0,O 1,O 2,O 3,O 4,O 5,O 6] none (λw'=>Blk w' B #[.map (some vb),.map (some kb),.int .i64 (p.length:Nat),.int .i64 0] 227/\Blk w' w1.heap.size #[.int .u8 k.toNat,.int .i64 i,.int .u64 b,.string (bs x)] 337/\True) (by kernel_rfl) (by kernel_rfl) ⟨(kB1.alloc _).drew,Blk.drew (Blk.new rfl),trivial⟩ ?_
     (repeat (refine za (v:=?_) rfl rfl (λw' h=>?_) (λK k=>?_);rotate_left;obtain⟨f1,f2,f3,_⟩:=h;(try have e1:=f1.cell);(try have e2:=f2.cell);(try have e3:=f3.cell);go_simp;(try with_reducible rfl);go_simp;refine k _ ?_;clear k K))
     refine ze ?_;go_wp2_with fail
     obtain⟨W2,hW2⟩:∃W2,W2=(w1.alloc (.cells #[.int .u8 k.toNat,.int .i64 i,.int .u64 b,.string (bs x)] 337)).drew:=⟨_,rfl⟩;have hb2:Below w.heap.size w W2:=by rw [hW2];exact zo (zi hb1 _)
     have kB2:Blk W2 B #[.map (some vb),.map (some kb),.int .i64 (p.length:Nat),.int .i64 0] 227:=by rw [hW2];exact(kB1.alloc _).drew
     have kT2:Blk W2 w1.heap.size #[.int .u8 k.toNat,.int .i64 i,.int .u64 b,.string (bs x)] 337:=by rw [hW2];exact Blk.drew (Blk.new rfl)
     rw [← hW2];clear hW2 eB1 lB1 kB1;have hb3:Below w.heap.size w W2.drew:=zo hb2;refine zd [O 0,O 1,O 2,O 3,O 4,O 5,O 6,E 7,E 8] none (λw'=>Blk w' B #[.map (some vb),.map (some kb),.int .i64 (p.length:Nat),.int .i64 0] 227/\Blk w' w1.heap.size #[.int .u8 k.toNat,.int .i64 i,.int .u64 b,.string (bs x)] 337/\(Instr.lookup 224 (.map (some vb)) (.int .i64 i) false).run prog w'=.ok (.agg #[.int .u64 p0,.int .u64 q0,.string (bs y0)]) w'/\True) (by kernel_rfl) (by kernel_rfl) ⟨kB2.drew,kT2.drew,hlkz.out _ hb3,trivial⟩ ?_
     (repeat (refine za (v:=?_) rfl rfl (λw' h=>?_) (λK k=>?_);rotate_left;obtain⟨f1,f2,f3,_⟩:=h;have e1:=f1.cell;have e2:=f2.cell;(try have e3:=f3.cell);go_simp;(try with_reducible rfl);go_simp;refine k _ ?_;clear k K))
     refine zc rfl (λK hK=>?_);go_wp2;refine hK.out _ _ (λ_=>⟨kB2.drew.alloc _,kT2.drew.alloc _,hlkz.out _ (zi hb3 _),trivial⟩) ?_;clear hK K;refine zc rfl (λK hK=>?_);go_wp2;refine hK.out _ _ (λ_=>⟨kB2.drew.alloc _,kT2.drew.alloc _,hlkz.out _ (zi hb3 _),trivial⟩) ?_;clear hK K;refine ze ?_;obtain⟨W3,hW3⟩:∃W3,W3=(W2.alloc (.cells #[.int .u64 p0,.int .u64 q0,.string (bs y0)] 317)).drew:=⟨_,rfl⟩;have hbW3:Below w.heap.size w W3:=by rw [hW3];exact zo (zi hb2 _)
     have kT3:Blk W3 w1.heap.size #[.int .u8 k.toNat,.int .i64 i,.int .u64 b,.string (bs x)] 337:=by rw [hW3];exact(kT2.alloc _).drew
     have kW3:Blk W3 W2.heap.size #[.int .u64 p0,.int .u64 q0,.string (bs y0)] 317:=by rw [hW3];exact Blk.drew (Blk.new rfl)
     rw [← hW3];clear hW3 kB2 hb2 hb3 kT2;have cT3:=kT3.cell;have lT3:=kT3.lt;have cW3:=kW3.cell;have lW3:=kW3.lt;have hb4:=zi hbW3 (.cells #[.int .u64 M,.int .u64 q0,.string (bs y0)] 317)
     by_cases hVw:((M,q0,y0):jl)=(p0,q0,y0)
     ·rw [show decide (((M,q0,y0):jl)≠(p0,q0,y0))=false by simp [hVw]] at hneq
      replace hVw:=hid hVw;go_wp2;go_ret
      exact⟨_,rfl,ow,zq.of_below t ow hb4,(j4.loc B p t).below h0.out hb4⟩
     ·rw [show decide (((M,q0,y0):jl)≠(p0,q0,y0))=true by simp [hVw]] at hneq
      replace hVw:=hid hVw;go_wp2_with fail
      refine(hkeep.out _ ((j4.loc B p t).below h0.out hb4)).mono ?_;rintro e w5⟨rfl,ow5,hs5,h5⟩;go_wp2;go_ret
      exact⟨_,rfl,ow5,(zq.of_below t ow hb4).trans hs5,h5⟩
theorem zc3(s:List UInt8):(vI s).2=0∨(9<=(vI s).2/\(vI s).2<=s.length):=by
 unfold vI
 split
 ·exact .inl rfl
 ·split
  ·exact .inl rfl
  ·split
   ·exact .inl rfl
   ·right;simp only;omega
def Z3(r:zy×Nat):Value:=.tuple #[vo r.1,.int .i64 (r.2:Nat)]
theorem zfh(s:List UInt8)(hl:s.length<=1073741824)(w:World):Calls prog 211 #[.string (bs s)] w λe w'=>e=.returned (Z3 (vI s))/\Below w.heap.size w w':=by
 have hsz:=zJ s
 by_cases h9:s.length<9
 ·have hf:vI s=(((0,0),[]),0):=by unfold vI;rw [if_pos h9]
  rw [hf];unfold Z3 vo;have t0:decide (((bs s).size:Int)<9)=true:=by rw [hsz];simp;omega
  replace hsz:=hid hsz;replace hf:=hid hf
  go_enter func211,ntmps211
  go_wp2;exact bodyPost_ret (v:=.tuple #[.agg #[.int .i64 0,.int .u32 0,.string ⟨#[]⟩],.int .i64 0]) (by simp [results,Tryz.results211,go_sem]) rfl ⟨rfl,pbx⟩
 have t0:decide (((bs s).size:Int)<9)=false:=by rw [hsz];simp;omega
 have b9:(9:Int)<=((bs s).size:Int):=by omega
 have b5:(5:Int)<=((bs s).size:Int):=by omega
 have c5:¬(bs s).size<5:=by omega
 have c9:¬(bs s).size<9:=by omega
 have hks:0<(bs s).size:=by omega
 obtain⟨x,hx⟩:∃x,(bs s)[0]=x:=⟨_,rfl⟩
 have hhd:s.head?=some x:=by
  cases s with
  |nil=>simp at h9
  |cons y s=>exact congrArg some hx
 have hex1:=yo s 1 5;have hex2:=yo s 5 9;rw [show 5 - 1=4 from rfl] at hex1;rw [show 9 - 5=4 from rfl] at hex2;have hl1:((s.drop 1).take 4).length=4:=by rw [N7,U3];omega
 have hl2:((s.drop 5).take 4).length=4:=by rw [N7,U3];omega
 have hf0:vI s=if 1000<yn ((s.drop 5).take 4)∨s.length<9+yn ((s.drop 5).take 4)then(((0,0),[]),0)
  else if zB ((((s.head?.getD 0).toNat:Int),yn ((s.drop 1).take 4)),(s.drop 9).take (yn ((s.drop 5).take 4)))=false then(((0,0),[]),0)
  else(((((s.head?.getD 0).toNat:Int),yn ((s.drop 1).take 4)),(s.drop 9).take (yn ((s.drop 5).take 4))),9+yn ((s.drop 5).take 4)):=by
  unfold vI;rw [if_neg h9]
 rw [hhd] at hf0;simp only [Option.getD_some] at hf0;have hget1:=λW=>xQ ((s.drop 1).take 4) (by omega) W
 have hget2:=λW=>xQ ((s.drop 5).take 4) (by omega) W
 rw [vK hl1] at hget1;rw [vK hl2] at hget2;have hg2:=vW ((s.drop 5).take 4)
 generalize(s.drop 1).take 4=d1 at*
 generalize(s.drop 5).take 4=d2 at*
 generalize yn d1=c at*
 generalize yn d2=n at*
 have hexd:=yo s 9 (9+n);rw [show 9+n - 9=n by omega] at hexd;have hwx:IntKind.i64.wrap (x.toNat:Int)=x.toNat:=by have:=x.toNat_lt;rw [N8];omega
 have hwn:IntKind.i64.wrap (n:Int)=n:=by rw [N8];omega
 have hw9:IntKind.i64.wrap (9+(n:Int))=9+n:=by rw [N8];omega
 replace hget1:=hid hget1;replace hget2:=hid hget2;replace hhd:=hid hhd
 by_cases h1:1000<n
 ·rw [if_pos (.inl h1)] at hf0
  rw [hf0];unfold Z3 vo;have t1:decide ((1000:Int)<(n:Int))=true:=by simp;omega
  replace hsz:=hid hsz;replace hf0:=hid hf0
  go_enter func211,ntmps211
  go_wp2_with fail
  refine(hget1.out _).mono ?_;rintro e w1⟨rfl,hb1⟩;have k1:Blk w1 w.heap.size #[.int .i64 0,.int .u32 0,.string ⟨#[]⟩] 78:=Blk.call (bkx) hb1;have hbw1:Below w.heap.size w w1:=pbx;go_wp2_with fail
  refine(hget2.out _).mono ?_;rintro e w2⟨rfl,hb2⟩;have k2:=k1.call hb2;have hbw2:=zg hbw1 hb2;have c2:=k2.cell;have f2:=k2.frozen;have l2:=k2.lt;clear k1 hbw1 hb1 hb2;have rr:=(((k2.set (o:=0) (.int .i64 0)).set (o:=1) (.int .u32 0)).set (o:=2) (.string ⟨#[]⟩)).cell;go_wp2;exact bodyPost_ret (v:=.tuple #[.agg #[.int .i64 0,.int .u32 0,.string ⟨#[]⟩],.int .i64 0]) (by simp [results,Tryz.results211,go_sem,rr]) rfl ⟨rfl,zn (zn (zn hbw2 (by simp) _) (by simp) _) (by simp) _⟩
 ·have t1:decide ((1000:Int)<(n:Int))=false:=by simp;omega
  by_cases h2:s.length<9+n
  ·rw [if_pos (.inr h2)] at hf0
   rw [hf0];unfold Z3 vo;have t2:decide (((bs s).size:Int)<9+(n:Int))=true:=by rw [hsz];simp;omega
   replace hsz:=hid hsz;replace hf0:=hid hf0
   go_enter func211,ntmps211
   go_wp2_with fail
   refine(hget1.out _).mono ?_;rintro e w1⟨rfl,hb1⟩;have k1:Blk w1 w.heap.size #[.int .i64 0,.int .u32 0,.string ⟨#[]⟩] 78:=Blk.call (bkx) hb1;have hbw1:Below w.heap.size w w1:=pbx;go_wp2_with fail
   refine(hget2.out _).mono ?_;rintro e w2⟨rfl,hb2⟩;have k2:=k1.call hb2;have hbw2:=zg hbw1 hb2;have c2:=k2.cell;have f2:=k2.frozen;have l2:=k2.lt;clear k1 hbw1 hb1 hb2;have rr:=(((k2.set (o:=0) (.int .i64 0)).set (o:=1) (.int .u32 0)).set (o:=2) (.string ⟨#[]⟩)).cell;go_wp2;exact bodyPost_ret (v:=.tuple #[.agg #[.int .i64 0,.int .u32 0,.string ⟨#[]⟩],.int .i64 0]) (by simp [results,Tryz.results211,go_sem,rr]) rfl ⟨rfl,zn (zn (zn hbw2 (by simp) _) (by simp) _) (by simp) _⟩
  ·rw [if_neg (by omega)] at hf0
   have t2:decide (((bs s).size:Int)<9+(n:Int))=false:=by rw [hsz];simp;omega
   have y1:9+(n:Int)<=((bs s).size:Int):=by omega
   have y0:(9:Int)<=9+(n:Int):=by omega
   have hwr:(9+(n:Int)).toNat=9+n:=by omega
   generalize(s.drop 9).take n=d at*
   have hright:=λW=>vH (x.toNat:Int) c d W
   replace hsz:=hid hsz
   cases hr:zB (((x.toNat:Int),c),d)
   ·rw [if_pos hr] at hf0
    rw [hr] at hright;rw [hf0];unfold Z3 vo;replace hf0:=hid hf0;replace hright:=hid hright
    go_enter func211,ntmps211
    go_wp2_with fail
    refine(hget1.out _).mono ?_;rintro e w1⟨rfl,hb1⟩;have k1:Blk w1 w.heap.size #[.int .i64 0,.int .u32 0,.string ⟨#[]⟩] 78:=Blk.call (bkx) hb1;have hbw1:Below w.heap.size w w1:=pbx;go_wp2_with fail
    refine(hget2.out _).mono ?_;rintro e w2⟨rfl,hb2⟩;have k2:=k1.call hb2;have hbw2:=zg hbw1 hb2;have c2:=k2.cell;have f2:=k2.frozen;have l2:=k2.lt;clear k1 hbw1 hb1 hb2;go_wp2_with fail
    apply ZN (Wp:=λw'=>Below w2.heap.size w2 w'/\Blk w' w2.heap.size #[.int .i64 (x.toNat:Int),.int .u32 c,.string (bs d)] 78)
    case h=>
     go_region_with fail
     all_goals go_simp
     all_goals exact ZM ⟨pbx,bkx⟩
    case' h2=>
    rintro w3⟨hb3,kM3⟩;have cM3:=kM3.cell;have k3:=k2.call hb3;clear c2 f2 l2 k2;go_wp2_with fail
    refine(hright.out _).mono ?_;rintro e w4⟨rfl,hb4⟩;have kM4:=kM3.call hb4;have kA4:=k3.call hb4;have hbw4:=zg (zg hbw2 hb3) hb4;have cM4:=kM4.cell;have cA4:=kA4.cell;have fA4:=kA4.frozen;have lA4:=kA4.lt;have rr:=(((kA4.set (o:=0) (.int .i64 0)).set (o:=1) (.int .u32 0)).set (o:=2) (.string ⟨#[]⟩)).cell;go_wp2;exact bodyPost_ret (v:=.tuple #[.agg #[.int .i64 0,.int .u32 0,.string ⟨#[]⟩],.int .i64 0]) (by simp [results,Tryz.results211,go_sem,rr]) rfl ⟨rfl,zn (zn (zn hbw4 (by simp) _) (by simp) _) (by simp) _⟩
   ·rw [if_neg (by simp [hr])] at hf0
    rw [hr] at hright;rw [hf0];unfold Z3 vo;replace hf0:=hid hf0;replace hright:=hid hright
    go_enter func211,ntmps211
    go_wp2_with fail
    refine(hget1.out _).mono ?_;rintro e w1⟨rfl,hb1⟩;have k1:Blk w1 w.heap.size #[.int .i64 0,.int .u32 0,.string ⟨#[]⟩] 78:=Blk.call (bkx) hb1;have hbw1:Below w.heap.size w w1:=pbx;go_wp2_with fail
    refine(hget2.out _).mono ?_;rintro e w2⟨rfl,hb2⟩;have k2:=k1.call hb2;have hbw2:=zg hbw1 hb2;have c2:=k2.cell;have f2:=k2.frozen;have l2:=k2.lt;clear k1 hbw1 hb1 hb2;go_wp2_with fail
    apply ZN (Wp:=λw'=>Below w2.heap.size w2 w'/\Blk w' w2.heap.size #[.int .i64 (x.toNat:Int),.int .u32 c,.string (bs d)] 78)
    case h=>
     go_region_with fail
     all_goals go_simp
     all_goals exact ZM ⟨pbx,bkx⟩
    case' h2=>
    rintro w3⟨hb3,kM3⟩;have cM3:=kM3.cell;have k3:=k2.call hb3;clear c2 f2 l2 k2;go_wp2_with fail
    refine(hright.out _).mono ?_;rintro e w4⟨rfl,hb4⟩;have kM4:=kM3.call hb4;have kA4:=k3.call hb4;have hbw4:=zg (zg hbw2 hb3) hb4;have cM4:=kM4.cell;have cA4:=kA4.cell;have fA4:=kA4.frozen;have lA4:=kA4.lt;have rr:=(((kA4.set (o:=0) (.int .i64 x.toNat)).set (o:=1) (.int .u32 c)).set (o:=2) (.string (bs d))).cell;go_wp2;exact bodyPost_ret (v:=.tuple #[.agg #[.int .i64 x.toNat,.int .u32 c,.string (bs d)],.int .i64 (9+(n:Int))]) (by simp [results,Tryz.results211,go_sem,rr]) rfl ⟨rfl,zn (zn (zn hbw4 (by simp) _) (by simp) _) (by simp) _⟩
theorem Z4:∀(n:Nat)(s:List UInt8)(l:List zy),yL n s=some l->l.length=n
 |0,s,l,h=>by
  unfold yL at h
  split at h
  ·cases h;rfl
  ·cases h
 |n+1,s,l,h=>by
  unfold yL at h
  split at h
  ·cases h
  ·cases hu:yL n (s.drop (vI s).2)with
   |none=>rw [hu] at h;cases h
   |some l'=>
    rw [hu] at h
    cases h
    simp [Z4 n _ l' hu]
def Yt(r:List zy×Int)(w:World)(e:Ending)(w':World):Prop:=
 ∃v,e=.returned (.tuple #[v,.int .i64 r.2])/\Below w.heap.size w w'/\Row w' 78 3 v r.1.length (r.1.flatMap zh)/\∀g,v.ownBlock=some g->w.heap.size<=g
theorem Ql(s:List UInt8)(hl:s.length<=1073741824)(w:World):Calls prog 159 #[.string (bs s)] w (Yt (jK s) w):=by
 have hsz:=zJ s
 cases hs:s with
 |nil=>
  subst hs;have hp:jK []=([],101):=rfl;rw [hp];have t0:decide (((bs []).size:Int)<1)=true:=by rw [hsz];simp
  replace hsz:=hid hsz;replace hp:=hid hp
  go_enter func159,ntmps159
  go_wp2;go_ret2
  exact⟨_,rfl,N2 _ _,z7 _ _ _,by simp [Value.ownBlock]⟩
 |cons b r0=>
  have hp:jK (b::r0)=if 64<b.toNat then([],101)else(match yL b.toNat r0 with|none=>(([]:List zy),(101:Int))|some l=>(l,0)):=rfl
  rw [← hs] at hp⊢;have t0:decide (((bs s).size:Int)<1)=false:=by rw [hsz,hs];simp;omega
  have hks:0<(bs s).size:=by rw [hsz,hs];simp
  obtain⟨x,hx⟩:∃x,(bs s)[0]=x:=⟨_,rfl⟩
  have hxb:x=b:=by
   subst hs;rw [← hx];rfl
  subst hxb
  by_cases h64:64<x.toNat
  ·rw [if_pos h64] at hp
   rw [hp];have t1:decide ((64:Int)<(x.toNat:Int))=true:=by simp;omega
   replace hsz:=hid hsz;replace hp:=hid hp;replace hs:=hid hs
   go_enter func159,ntmps159
   go_wp2;go_ret2
   exact⟨_,rfl,N2 _ _,z7 _ _ _,by simp [Value.ownBlock]⟩
  ·rw [if_neg h64] at hp
   have t1:decide ((64:Int)<(x.toNat:Int))=false:=by simp;omega
   have y1:(1:Int)<=((bs s).size:Int):=by omega
   have hxd:(bs s).extract 1 (bs s).size=bs r0:=by rw [jk,hs];rfl
   have hwx:IntKind.i64.wrap (x.toNat:Int)=x.toNat:=by rw [N8];omega
   have hr0:r0.length<=1073741824:=by rw [hs] at hl;simp at hl;omega
   obtain⟨n,hxn⟩:∃n,x.toNat=n:=⟨_,rfl⟩;rw [hxn] at h64 hp t1 hwx;have hn:n<=64:=by omega
   replace hsz:=hid hsz;replace hs:=hid hs;replace hp:=hid hp
   go_enter func159,ntmps159
   go_wp2
   go_loopw [4,5,21] (λp4 p5 p21 wr=>∃(k:Nat)(acc:List zy)(r:List UInt8),k<=n/\p21=.int .i64 k/\p5=.string (bs r)/\r.length<=r0.length/\acc.length=k/\yL n r0=(yL (n - k) r).map (acc++·)/\Row wr 78 3 p4 acc.length (acc.flatMap zh)/\(∀g,p4.ownBlock=some g->w.heap.size<=g)/\Below w.heap.size w wr) (λ_ _ p21 _=>n - (intOf p21).toNat)
   case atStart=>exact⟨0,[],r0,Nat.zero_le _,rfl,rfl,N0 _,rfl,by simp,z7 _ _ _,by simp [Value.ownBlock],N2 _ _⟩
   case round=>
    obtain⟨k,acc,r,hk,rfl,rfl,hr,hacc,hun,hrow,hown,hbw⟩:=hrel;clear hxd y1
    by_cases hlt:k<n
    ·have hfm:=λW=>zfh r (by omega) W
     have hfs:=zc3 r;have hsr:=zJ r
     have hus:yL (n - k) r=if(vI r).2=0 then none else(yL (n - (k+1)) (r.drop (vI r).2)).map ((vI r).1::·):=by
      rw [show n - k=(n - (k+1))+1 by omega];rfl
     obtain⟨⟨⟨⟨mi,mc⟩,md⟩,m⟩,hm⟩:∃q,vI r=q:=⟨_,rfl⟩;rw [hm] at hfm hfs hus;unfold Z3 vo at hfm;simp only at hfm hfs hus;obtain⟨ra,rn,rc,rfl⟩:=hrow.shape;replace hfm:=hid hfm;replace hm:=hid hm;replace hown:=hid hown;replace hacc:=hid hacc
     by_cases hm0:m=0
     ·subst hm0
      rw [if_pos rfl] at hus;rw [hus] at hun;have hpp:=hp.out;rw [hun] at hpp;have t2:((0:Int)==0)=true:=rfl;replace hrow:=hid hrow;replace hus:=hid hus;replace hun:=hid hun;replace hpp:=hid hpp;replace hsr:=hid hsr;go_wp2_with fail
      refine(hfm.out _).mono ?_;rintro e w1⟨rfl,hb1⟩;go_wp2;go_ret2
      rw [hpp.out];exact⟨_,rfl,zi (zg hbw hb1) _,z7 _ _ _,by simp [Value.ownBlock]⟩
     ·rw [if_neg hm0] at hus
      have t2:((m:Int)==0)=false:=by simpa using hm0
      have y1:(m:Int)<=((bs r).size:Int):=by omega
      have hxd:=jk r m
      have hun2:yL n r0=(yL (n - (k+1)) (r.drop m)).map ((acc++ [((mi,mc),md)])++·):=by
       rw [hun,hus];cases yL (n - (k+1)) (r.drop m)<;>simp
      have hrl:(r.drop m).length<=r0.length:=by simp;omega
      generalize r.drop m=r' at*
      replace hus:=hid hus;replace hun:=hid hun;replace hun2:=hid hun2;replace hsr:=hid hsr;go_wp2_with fail
      refine(hfm.out _).mono ?_;rintro e w1⟨rfl,hb1⟩;have hb2:Below wr.heap.size wr (w1.alloc (.cells #[.int .i64 mi,.int .u32 mc,.string (bs md)] 78)):=zi hb1 _;have hrow2:=hrow.below hb2;obtain⟨v',W4,hrun,hrow4,hgr,hown4⟩:=zT zcc (hrow2.below ((N2 _ _).alloc (N0 _) (.cells #[.int .i64 mi,.int .u32 mc,.string (bs md)] 78))) (jM (n:=1) (size:=3) (cap:=1) (Blk.new (w:=w1.alloc (.cells #[.int .i64 mi,.int .u32 mc,.string (bs md)] 78)) (cs:=#[.int .i64 mi,.int .u32 mc,.string (bs md)]) (t:=78) rfl) rfl (N0 1)) (jq [((mi,mc),md)]) (by have:=hacc.out;omega) 42;obtain⟨sa,sm,sc,rfl⟩:=hrow4.shape;have hz1:(w1.alloc (.cells #[.int .i64 mi,.int .u32 mc,.string (bs md)] 78)).heap.size=w1.heap.size+1:=by simp
      rw [hz1] at hrun;replace hrow4:=hid hrow4;replace hown4:=hid hown4;replace hrow2:=hid hrow2;replace hrow:=hid hrow;replace hrun:=hid hrun
      go_wp2_with (at_builtin
                   refine zw rfl _ _ _ rfl rfl rfl hrun.out ?_)
      go_roundw
      case rel=>
       have hbW2:=zg hbw hb2;refine⟨k+1,acc++ [((mi,mc),md)],r',by omega,by go_num,rfl,hrl,by simp [hacc.out],hun2.out,?_,λg hg=>?_,?_⟩
       ·rw [N1,U2,U5];exact hrow4.out
       ·have h5:=hown4.out
        rw [hg] at h5
        rcases h5 with h|h
        ·exact hown.out g h.symm
        ·have:=hbW2.size;simp at h;omega
       ·exact(hbW2.alloc (hbW2.size) _).grown hgr (by have:=hbW2.size;simp;omega) (λj hj=>hown.out j hj)
      case measure=>simp [intOf];omega
    ·obtain rfl:k=n:=by omega
     have hsr:(bs r).toList.isEmpty=r.isEmpty:=by rw [yC]
     rw [show k - k=0 by omega] at hun;have hu0:yL 0 r=if r=[] then some [] else none:=rfl
     rw [hu0] at hun;obtain⟨ra,rn,rc,rfl⟩:=hrow.shape
     by_cases hre:r=[]
     ·rw [if_pos hre] at hun
      have hpp:=hp.out;rw [hun] at hpp;have hpp':jK s=(acc,0):=by rw [hpp];simp
      rw [show r.isEmpty=true by simp [hre]] at hsr;replace hrow:=hid hrow;replace hun:=hid hun;replace hre:=hid hre;replace hpp:=hid hpp;replace hpp':=hid hpp';go_wp2;go_ret2
      rw [hpp'.out];exact⟨_,rfl,hbw,hrow.out,hown⟩
     ·rw [if_neg hre] at hun
      have hpp:=hp.out;rw [hun] at hpp;rw [show r.isEmpty=false by simp [hre]] at hsr;replace hrow:=hid hrow;replace hun:=hid hun;replace hre:=hid hre;replace hpp:=hid hpp;go_wp2;go_ret2
      rw [hpp.out];exact⟨_,rfl,hbw,z7 _ _ _,by simp [Value.ownBlock]⟩
