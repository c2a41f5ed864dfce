/- PARTS OF THE PROOF. -/
import Derived.Test.YtobnhnidffipjaaGreatDoorK21
set_option maxRecDepth 8000
set_option maxHeartbeats 4000000
open Go.Proofs.Tryz
namespace Go.Proofs.YtobnhnidffipjaaGreatDoor
open Go Go.RowKit Go.Shelf Go.Extern.Stop Go.Stop Go.Extern
attribute [local go_sem] Oper.semAt_some zw zm
theorem ziv(a b:jl)(w:World):(binOp .neq 272 (.agg #[.int .u64 a.1,.int .u64 a.2.1,.string (bs a.2.2)]) (.agg #[.int .u64 b.1,.int .u64 b.2.1,.string (bs b.2.2)])).run prog w=.ok (.bool (decide (a≠b))) w:=by
 obtain⟨a1,a2,a3⟩:=a;obtain⟨b1,b2,b3⟩:=b;have hq:=zdN a3 b3;rw [run_neq_struct]
 by_cases h1:a1=b1
 ·subst h1
  by_cases h2:a2=b2
  ·subst h2
   by_cases h3:a3=b3
   ·subst h3;simp [go_sem]
   ·rw [show decide (a3=b3)=false by simpa using h3] at hq;simp [go_sem,h3,hq]
  ·have h2':¬((a2:Int)=(b2:Int)):=λe=>h2 (by omega)
   simp [go_sem,h2,h2']
 ·have h1':¬((a1:Int)=(b1:Int)):=λe=>h1 (by omega)
  simp [go_sem,h1,h1']
theorem JS {s:List UInt8}{k:UInt8}{i:Int}{b:Nat}{x:List UInt8}(h:jA s=some (k,i,b,x)):1<=i/\i<=10000/\x.length<=s.length/\b<18446744073709551616:=by
 unfold jA at h;have g1:=vY ((s.drop 5).take 4);have g2:=vY ((s.drop 9).take 4)
 split at h
 ·cases h
 ·split at h
  ·cases h
  ·rename_i hb
   have hi:zP (yn ((s.drop 1).take 4):Int)=true:=by cases h:zP (yn ((s.drop 1).take 4):Int);exact absurd (.inr h) hb;rfl
   have hi2:1<=(yn ((s.drop 1).take 4):Int)/\(yn ((s.drop 1).take 4):Int)<=10000:=by simpa [zP] using hi
   split at h
   ·split at h
    ·cases h;exact⟨hi2.1,hi2.2,by simp,by omega⟩
    ·cases h
   ·split at h
    ·split at h
     ·cases h
     ·split at h
      ·cases h
      ·split at h
       ·cases h;exact⟨hi2.1,hi2.2,by simp,by omega⟩
       ·cases h
    ·cases h
def Qi(B:Nat)(p:xp)(t:List Nat)(ow:Own)(w:World)(e:Ending)(w':World):Prop:=
 ∃v:Int,e=.returned (.int .i64 v)/\∃ow',zq t ow w ow' w'/\jV B p t ow' w'
theorem zbf(B:Nat)(p:xp)(t:List Nat)(_ht:t≠ [])(ow:Own)(s:List UInt8)(hs:s.length<=1000000)(w:World)(h:jV B p t ow w):
 Calls prog 131 #[.pointer (some ⟨B,0,none⟩),.string (bs s)] w (Qi B (yB p s) t ow w):=by
 have hread:=λW=>ze6 s (by omega) W
 have hrp:yB p s=match jA s with
  |none=>p
  |some (k,i,b,x)=>if k=100 then(zV p i x).1 else if xM k (zO p i) b x=zO p i then p else {p with votes:=put i (xM k (zO p i) b x) p.votes} :=rfl
 have h0:=h;obtain⟨hl,vb,kb,hB,hv, -⟩:=h;unfold qp at hB;have e0:=hB.cell;have l0:=hB.lt
 cases hrr:jA s with
 |none=>
  rw [hrr] at hread hrp;simp only at hrp;rw [hrp];unfold Ja at hread;replace hread:=G hread;replace hrp:=G hrp;replace hrr:=G hrr;replace h0:=G h0;clear hB hv
  go_enter func131,ntmps131
  go_wp2_with fail
  refine(hread.out _).mono ?_;rintro e w1⟨a,b,c,d,rfl, -,hb1⟩;go_wp2;go_ret
  exact⟨_,rfl,ow,zq.of_below t ow (zg hb1 _),(jV.loc B p t).below h0.out (zg hb1 _)⟩
 |some r=>
  obtain⟨k,i,b,x⟩:=r;rw [hrr] at hread hrp;simp only at hrp;unfold Ja at hread;replace hread:=G hread
  by_cases hk:k=100
  ·subst hk
   rw [if_pos rfl] at hrp;rw [hrp];obtain⟨hi1,hi2,hxl,hb64⟩:=JS hrr;have hlearn:=λW hW=>V5 B p t ow i x (by omega) W hW
   have t1:(((100:UInt8).toNat:Int)==100)=true:=rfl;replace hrp:=G hrp;replace hrr:=G hrr;replace h0:=G h0;replace hlearn:=G hlearn;unfold Y7 at hlearn;clear hB hv
   go_enter func131,ntmps131
   go_wp2_with fail
   refine(hread.out _).mono ?_;rintro e w1⟨a,b',c,d,rfl,hf,hb1⟩;obtain⟨rfl,hf2,rfl,rfl⟩:=hf _ _ _ _ rfl;obtain rfl:=hf2.symm;clear hf;go_wp2_with fail
   refine(hlearn.out _ ((jV.loc B p t).below h0.out (zg hb1 _))).mono ?_;rintro e w2⟨rfl,ow2,hs2,h2⟩;go_wp2;go_ret
   exact⟨_,rfl,ow2,(zq.of_below t ow (zg hb1 _)).trans hs2,h2⟩
  ·rw [if_neg hk] at hrp
   rw [hrp];obtain⟨hi1,hi2,hxl,hb64⟩:=JS hrr
   have hlkz:∀W,Below w.heap.size w W->(Instr.lookup 188 (.map (some vb)) (.int .i64 i) false).run prog W=.ok (yL (zO p i)) W:=λW hW=>by
    rw [← V4 p i];exact(hv.kept (hW.block vb hv.lt)).lookup xL Tryz.underlying188 (V2 W) i
   have t1:((k.toNat:Int)==100)=false:=by
    simp only [beq_eq_false_iff_ne,ne_eq];intro hc;exact hk (UInt8.toNat_inj.1 (by simpa using(by omega:k.toNat=100)))
   have t2:decide (i<=0)=false:=by simp;omega
   obtain⟨V,hV⟩:∃V,xM k (zO p i) b x=V:=⟨_,rfl⟩;have hVd:V=if k=118/\(zO p i).2.1<=b then(max (zO p i).1 b,b,x)else(max (zO p i).1 b,(zO p i).2):=by rw [← hV];rfl
   rw [hV] at hrp⊢;have hkeep:=λW hW=>Ys B p t ow i V W hW
   have hneq:=λW=>ziv V (zO p i) W
   obtain⟨⟨p0,q0,y0⟩,hva⟩:∃v,zO p i=v:=⟨_,rfl⟩;rw [hva] at hlkz hVd hneq⊢;unfold yL at hlkz hkeep;simp only at hlkz hVd hneq;obtain⟨M,hM⟩:∃M,max p0 b=M:=⟨_,rfl⟩;have hMi:max (p0:Int) (b:Int)=(M:Int):=by rw [← hM];omega
   rw [hM] at hVd;replace hrp:=G hrp;replace hrr:=G hrr;replace h0:=G h0;replace hlkz:=G hlkz;replace hV:=G hV;replace hva:=G hva;replace hM:=G hM;replace hk:=G hk;clear hv
   by_cases h118:k=118/\q0<=b
   ·rw [if_pos h118] at hVd
    obtain⟨rfl,hqb⟩:=h118;subst hVd;have t3:(((118:UInt8).toNat:Int)==118)=true:=rfl;have t4:decide ((q0:Int)<=(b:Int))=true:=by simp;omega
    replace hkeep:=G hkeep;replace hqb:=G hqb
    by_cases hVw:((M,b,x):jl)=(p0,q0,y0)
    ·rw [if_pos hVw]
     rw [show decide (((M,b,x):jl)≠(p0,q0,y0))=false by simp [hVw]] at hneq;simp only at hneq;replace hVw:=G hVw
     go_enter func131,ntmps131
     go_wp2_with fail
     refine(hread.out _).mono ?_;rintro e w1⟨a,b',c,d,rfl,hf,hb1⟩;obtain⟨rfl,hf2,rfl,rfl⟩:=hf _ _ _ _ rfl;obtain rfl:=hf2.symm;clear hf;have kB1:=hB.call hb1;have eB1:=kB1.cell;have lB1:=kB1.lt;go_wp2_with fail
     refine zd [O 0,O 1,O 2,O 3,O 4,O 5,O 6] none (λw'=>Blk w' B #[.map (some vb),.map (some kb),.int .i64 (p.length:Nat),.int .i64 0] 191/\Blk w' w1.heap.size #[.int .u8 118,.int .i64 i,.int .u64 b,.string (bs x)] 291/\True) (by kernel_rfl) (by kernel_rfl) ⟨(kB1.alloc _).drew,Blk.drew (Blk.new rfl),trivial⟩ ?_
     (repeat (refine za (v:=?_) rfl rfl (λw' h=>?_) (λK k=>?_);rotate_left;obtain⟨f1,f2,f3,_⟩:=h;(try have e1:=f1.cell);(try have e2:=f2.cell);(try have e3:=f3.cell);go_simp;(try with_reducible rfl);go_simp;refine k _ ?_;clear k K))
     refine zf ?_;go_wp2_with fail
     obtain⟨W2,hW2⟩:∃W2,W2=(w1.alloc (.cells #[.int .u8 118,.int .i64 i,.int .u64 b,.string (bs x)] 291)).drew:=⟨_,rfl⟩;have hb2:Below w.heap.size w W2:=by rw [hW2];exact zn (zg hb1 _)
     have kB2:Blk W2 B #[.map (some vb),.map (some kb),.int .i64 (p.length:Nat),.int .i64 0] 191:=by rw [hW2];exact(kB1.alloc _).drew
     have kT2:Blk W2 w1.heap.size #[.int .u8 118,.int .i64 i,.int .u64 b,.string (bs x)] 291:=by rw [hW2];exact Blk.drew (Blk.new rfl)
     rw [← hW2];clear hW2 eB1 lB1 kB1;have hb3:Below w.heap.size w W2.drew:=zn hb2;refine zd [O 0,O 1,O 2,O 3,O 4,O 5,O 6,E 7,E 8] none (λw'=>Blk w' B #[.map (some vb),.map (some kb),.int .i64 (p.length:Nat),.int .i64 0] 191/\Blk w' w1.heap.size #[.int .u8 118,.int .i64 i,.int .u64 b,.string (bs x)] 291/\(Instr.lookup 188 (.map (some vb)) (.int .i64 i) false).run prog w'=.ok (.agg #[.int .u64 p0,.int .u64 q0,.string (bs y0)]) w'/\True) (by kernel_rfl) (by kernel_rfl) ⟨kB2.drew,kT2.drew,hlkz.out _ hb3,trivial⟩ ?_
     (repeat (refine za (v:=?_) rfl rfl (λw' h=>?_) (λK k=>?_);rotate_left;obtain⟨f1,f2,f3,_⟩:=h;have e1:=f1.cell;have e2:=f2.cell;(try have e3:=f3.cell);go_simp;(try with_reducible rfl);go_simp;refine k _ ?_;clear k K))
     refine zc rfl (λK hK=>?_);go_wp2;refine hK.out _ _ (λ_=>⟨kB2.drew.alloc _,kT2.drew.alloc _,hlkz.out _ (zg hb3 _),trivial⟩) ?_;clear hK K;refine zc rfl (λK hK=>?_);go_wp2;refine hK.out _ _ (λ_=>⟨kB2.drew.alloc _,kT2.drew.alloc _,hlkz.out _ (zg hb3 _),trivial⟩) ?_;clear hK K;refine zf ?_;obtain⟨W3,hW3⟩:∃W3,W3=(W2.alloc (.cells #[.int .u64 p0,.int .u64 q0,.string (bs y0)] 272)).drew:=⟨_,rfl⟩;have hbW3:Below w.heap.size w W3:=by rw [hW3];exact zn (zg hb2 _)
     have kT3:Blk W3 w1.heap.size #[.int .u8 118,.int .i64 i,.int .u64 b,.string (bs x)] 291:=by rw [hW3];exact(kT2.alloc _).drew
     have kW3:Blk W3 W2.heap.size #[.int .u64 p0,.int .u64 q0,.string (bs y0)] 272:=by rw [hW3];exact Blk.drew (Blk.new rfl)
     rw [← hW3];clear hW3 kB2 hb2 hb3 kT2;have cT3:=kT3.cell;have lT3:=kT3.lt;have cW3:=kW3.cell;have lW3:=kW3.lt;go_wp2_with fail
     refine zd [O 0,O 1,O 2,O 3,O 4,E 5,O 6,E 7] none (λw'=>Blk w' w1.heap.size #[.int .u8 118,.int .i64 i,.int .u64 b,.string (bs x)] 291/\True) (by kernel_rfl) (by kernel_rfl) ⟨(kT3.alloc _).drew,trivial⟩ ?_
     (repeat (refine za (v:=?_) rfl rfl (λw' h=>?_) (λK k=>?_);rotate_left;obtain⟨f1,f2,f3,_⟩:=h;(try have e1:=f1.cell);(try have e2:=f2.cell);(try have e3:=f3.cell);go_simp;(try with_reducible rfl);go_simp;refine k _ ?_;clear k K))
     refine zc rfl (λK hK=>?_);go_wp2;refine hK.out _ _ (λ_=>⟨(kT3.alloc _).drew,trivial⟩) ?_;clear hK K
     (repeat (refine za (v:=?_) rfl rfl (λw' h=>?_) (λK k=>?_);rotate_left;obtain⟨f1,f2,f3,_⟩:=h;(try have e1:=f1.cell);(try have e2:=f2.cell);(try have e3:=f3.cell);go_simp;(try with_reducible rfl);go_simp;refine k _ ?_;clear k K))
     refine zc rfl (λK hK=>?_);go_wp2;refine hK.out _ _ (λ_=>⟨(kT3.alloc _).drew,trivial⟩) ?_;clear hK K;refine zf ?_;obtain⟨W4,hW4⟩:∃W4,W4=(W3.alloc (.cells #[.int .u64 M,.int .u64 b,.string (bs x)] 272)).drew:=⟨_,rfl⟩;have hb4:Below w.heap.size w W4:=by rw [hW4];exact zn (zg hbW3 _)
     have kT4:Blk W4 w1.heap.size #[.int .u8 118,.int .i64 i,.int .u64 b,.string (bs x)] 291:=by rw [hW4];exact(kT3.alloc _).drew
     have kW4:Blk W4 W2.heap.size #[.int .u64 p0,.int .u64 q0,.string (bs y0)] 272:=by rw [hW4];exact(kW3.alloc _).drew
     have kX4:Blk W4 W3.heap.size #[.int .u64 M,.int .u64 b,.string (bs x)] 272:=by rw [hW4];exact Blk.drew (Blk.new rfl)
     rw [← hW4];clear hW4 cT3 lT3 cW3 lW3 kT3 kW3;have cT4:=kT4.cell;have cW4:=kW4.cell;have cX4:=kX4.cell;go_wp2;go_ret
     exact⟨_,rfl,ow,zq.of_below t ow hb4,(jV.loc B p t).below h0.out hb4⟩
    ·rw [if_neg hVw]
     rw [show decide (((M,b,x):jl)≠(p0,q0,y0))=true by simp [hVw]] at hneq;simp only at hneq;replace hVw:=G hVw
     go_enter func131,ntmps131
     go_wp2_with fail
     refine(hread.out _).mono ?_;rintro e w1⟨a,b',c,d,rfl,hf,hb1⟩;obtain⟨rfl,hf2,rfl,rfl⟩:=hf _ _ _ _ rfl;obtain rfl:=hf2.symm;clear hf;have kB1:=hB.call hb1;have eB1:=kB1.cell;have lB1:=kB1.lt;go_wp2_with fail
     refine zd [O 0,O 1,O 2,O 3,O 4,O 5,O 6] none (λw'=>Blk w' B #[.map (some vb),.map (some kb),.int .i64 (p.length:Nat),.int .i64 0] 191/\Blk w' w1.heap.size #[.int .u8 118,.int .i64 i,.int .u64 b,.string (bs x)] 291/\True) (by kernel_rfl) (by kernel_rfl) ⟨(kB1.alloc _).drew,Blk.drew (Blk.new rfl),trivial⟩ ?_
     (repeat (refine za (v:=?_) rfl rfl (λw' h=>?_) (λK k=>?_);rotate_left;obtain⟨f1,f2,f3,_⟩:=h;(try have e1:=f1.cell);(try have e2:=f2.cell);(try have e3:=f3.cell);go_simp;(try with_reducible rfl);go_simp;refine k _ ?_;clear k K))
     refine zf ?_;go_wp2_with fail
     obtain⟨W2,hW2⟩:∃W2,W2=(w1.alloc (.cells #[.int .u8 118,.int .i64 i,.int .u64 b,.string (bs x)] 291)).drew:=⟨_,rfl⟩;have hb2:Below w.heap.size w W2:=by rw [hW2];exact zn (zg hb1 _)
     have kB2:Blk W2 B #[.map (some vb),.map (some kb),.int .i64 (p.length:Nat),.int .i64 0] 191:=by rw [hW2];exact(kB1.alloc _).drew
     have kT2:Blk W2 w1.heap.size #[.int .u8 118,.int .i64 i,.int .u64 b,.string (bs x)] 291:=by rw [hW2];exact Blk.drew (Blk.new rfl)
     rw [← hW2];clear hW2 eB1 lB1 kB1;have hb3:Below w.heap.size w W2.drew:=zn hb2;refine zd [O 0,O 1,O 2,O 3,O 4,O 5,O 6,E 7,E 8] none (λw'=>Blk w' B #[.map (some vb),.map (some kb),.int .i64 (p.length:Nat),.int .i64 0] 191/\Blk w' w1.heap.size #[.int .u8 118,.int .i64 i,.int .u64 b,.string (bs x)] 291/\(Instr.lookup 188 (.map (some vb)) (.int .i64 i) false).run prog w'=.ok (.agg #[.int .u64 p0,.int .u64 q0,.string (bs y0)]) w'/\True) (by kernel_rfl) (by kernel_rfl) ⟨kB2.drew,kT2.drew,hlkz.out _ hb3,trivial⟩ ?_
     (repeat (refine za (v:=?_) rfl rfl (λw' h=>?_) (λK k=>?_);rotate_left;obtain⟨f1,f2,f3,_⟩:=h;have e1:=f1.cell;have e2:=f2.cell;(try have e3:=f3.cell);go_simp;(try with_reducible rfl);go_simp;refine k _ ?_;clear k K))
     refine zc rfl (λK hK=>?_);go_wp2;refine hK.out _ _ (λ_=>⟨kB2.drew.alloc _,kT2.drew.alloc _,hlkz.out _ (zg hb3 _),trivial⟩) ?_;clear hK K;refine zc rfl (λK hK=>?_);go_wp2;refine hK.out _ _ (λ_=>⟨kB2.drew.alloc _,kT2.drew.alloc _,hlkz.out _ (zg hb3 _),trivial⟩) ?_;clear hK K;refine zf ?_;obtain⟨W3,hW3⟩:∃W3,W3=(W2.alloc (.cells #[.int .u64 p0,.int .u64 q0,.string (bs y0)] 272)).drew:=⟨_,rfl⟩;have hbW3:Below w.heap.size w W3:=by rw [hW3];exact zn (zg hb2 _)
     have kT3:Blk W3 w1.heap.size #[.int .u8 118,.int .i64 i,.int .u64 b,.string (bs x)] 291:=by rw [hW3];exact(kT2.alloc _).drew
     have kW3:Blk W3 W2.heap.size #[.int .u64 p0,.int .u64 q0,.string (bs y0)] 272:=by rw [hW3];exact Blk.drew (Blk.new rfl)
     rw [← hW3];clear hW3 kB2 hb2 hb3 kT2;have cT3:=kT3.cell;have lT3:=kT3.lt;have cW3:=kW3.cell;have lW3:=kW3.lt;go_wp2_with fail
     refine zd [O 0,O 1,O 2,O 3,O 4,E 5,O 6,E 7] none (λw'=>Blk w' w1.heap.size #[.int .u8 118,.int .i64 i,.int .u64 b,.string (bs x)] 291/\True) (by kernel_rfl) (by kernel_rfl) ⟨(kT3.alloc _).drew,trivial⟩ ?_
     (repeat (refine za (v:=?_) rfl rfl (λw' h=>?_) (λK k=>?_);rotate_left;obtain⟨f1,f2,f3,_⟩:=h;(try have e1:=f1.cell);(try have e2:=f2.cell);(try have e3:=f3.cell);go_simp;(try with_reducible rfl);go_simp;refine k _ ?_;clear k K))
     refine zc rfl (λK hK=>?_);go_wp2;refine hK.out _ _ (λ_=>⟨(kT3.alloc _).drew,trivial⟩) ?_;clear hK K
     (repeat (refine za (v:=?_) rfl rfl (λw' h=>?_) (λK k=>?_);rotate_left;obtain⟨f1,f2,f3,_⟩:=h;(try have e1:=f1.cell);(try have e2:=f2.cell);(try have e3:=f3.cell);go_simp;(try with_reducible rfl);go_simp;refine k _ ?_;clear k K))
     refine zc rfl (λK hK=>?_);go_wp2;refine hK.out _ _ (λ_=>⟨(kT3.alloc _).drew,trivial⟩) ?_;clear hK K;refine zf ?_;obtain⟨W4,hW4⟩:∃W4,W4=(W3.alloc (.cells #[.int .u64 M,.int .u64 b,.string (bs x)] 272)).drew:=⟨_,rfl⟩;have hb4:Below w.heap.size w W4:=by rw [hW4];exact zn (zg hbW3 _)
     have kT4:Blk W4 w1.heap.size #[.int .u8 118,.int .i64 i,.int .u64 b,.string (bs x)] 291:=by rw [hW4];exact(kT3.alloc _).drew
     have kW4:Blk W4 W2.heap.size #[.int .u64 p0,.int .u64 q0,.string (bs y0)] 272:=by rw [hW4];exact(kW3.alloc _).drew
     have kX4:Blk W4 W3.heap.size #[.int .u64 M,.int .u64 b,.string (bs x)] 272:=by rw [hW4];exact Blk.drew (Blk.new rfl)
     rw [← hW4];clear hW4 cT3 lT3 cW3 lW3 kT3 kW3;have cT4:=kT4.cell;have cW4:=kW4.cell;have cX4:=kX4.cell;go_wp2_with fail
     refine(hkeep.out _ ((jV.loc B p t).below h0.out hb4)).mono ?_;rintro e w5⟨rfl,ow5,hs5,h5⟩;go_wp2;go_ret
     exact⟨_,rfl,ow5,(zq.of_below t ow hb4).trans hs5,h5⟩
   ·rw [if_neg h118] at hVd
    subst hVd;replace hkeep:=G hkeep
    by_cases h18:k=118
    ·subst h18
     have hqb:¬q0<=b:=λh=>h118 ⟨rfl,h⟩
     have t3:(((118:UInt8).toNat:Int)==118)=true:=rfl;have t4:decide ((q0:Int)<=(b:Int))=false:=by simp;omega
     replace h118:=G h118;replace hqb:=G hqb
     by_cases hVw:((M,q0,y0):jl)=(p0,q0,y0)
     ·rw [if_pos hVw]
      rw [show decide (((M,q0,y0):jl)≠(p0,q0,y0))=false by simp [hVw]] at hneq;simp only at hneq;replace hVw:=G hVw
      go_enter func131,ntmps131
      go_wp2_with fail
      refine(hread.out _).mono ?_;rintro e w1⟨a,b',c,d,rfl,hf,hb1⟩;obtain⟨rfl,hf2,rfl,rfl⟩:=hf _ _ _ _ rfl;obtain rfl:=hf2.symm;clear hf;have kB1:=hB.call hb1;have eB1:=kB1.cell;have lB1:=kB1.lt;go_wp2_with fail
      refine zd [O 0,O 1,O 2,O 3,O 4,O 5,O 6] none (λw'=>Blk w' B #[.map (some vb),.map (some kb),.int .i64 (p.length:Nat),.int .i64 0] 191/\Blk w' w1.heap.size #[.int .u8 118,.int .i64 i,.int .u64 b,.string (bs x)] 291/\True) (by kernel_rfl) (by kernel_rfl) ⟨(kB1.alloc _).drew,Blk.drew (Blk.new rfl),trivial⟩ ?_
      (repeat (refine za (v:=?_) rfl rfl (λw' h=>?_) (λK k=>?_);rotate_left;obtain⟨f1,f2,f3,_⟩:=h;(try have e1:=f1.cell);(try have e2:=f2.cell);(try have e3:=f3.cell);go_simp;(try with_reducible rfl);go_simp;refine k _ ?_;clear k K))
      refine zf ?_;go_wp2_with fail
      obtain⟨W2,hW2⟩:∃W2,W2=(w1.alloc (.cells #[.int .u8 118,.int .i64 i,.int .u64 b,.string (bs x)] 291)).drew:=⟨_,rfl⟩;have hb2:Below w.heap.size w W2:=by rw [hW2];exact zn (zg hb1 _)
      have kB2:Blk W2 B #[.map (some vb),.map (some kb),.int .i64 (p.length:Nat),.int .i64 0] 191:=by rw [hW2];exact(kB1.alloc _).drew
      have kT2:Blk W2 w1.heap.size #[.int .u8 118,.int .i64 i,.int .u64 b,.string (bs x)] 291:=by rw [hW2];exact Blk.drew (Blk.new rfl)
      rw [← hW2];clear hW2 eB1 lB1 kB1;have hb3:Below w.heap.size w W2.drew:=zn hb2;refine zd [O 0,O 1,O 2,O 3,O 4,O 5,O 6,E 7,E 8] none (λw'=>Blk w' B #[.map (some vb),.map (some kb),.int .i64 (p.length:Nat),.int .i64 0] 191/\Blk w' w1.heap.size #[.int .u8 118,.int .i64 i,.int .u64 b,.string (bs x)] 291/\(Instr.lookup 188 (.map (some vb)) (.int .i64 i) false).run prog w'=.ok (.agg #[.int .u64 p0,.int .u64 q0,.string (bs y0)]) w'/\True) (by kernel_rfl) (by kernel_rfl) ⟨kB2.drew,kT2.drew,hlkz.out _ hb3,trivial⟩ ?_
      (repeat (refine za (v:=?_) rfl rfl (λw' h=>?_) (λK k=>?_);rotate_left;obtain⟨f1,f2,f3,_⟩:=h;have e1:=f1.cell;have e2:=f2.cell;(try have e3:=f3.cell);go_simp;(try with_reducible rfl);go_simp;refine k _ ?_;clear k K))
      refine zc rfl (λK hK=>?_);go_wp2;refine hK.out _ _ (λ_=>⟨kB2.drew.alloc _,kT2.drew.alloc _,hlkz.out _ (zg hb3 _),trivial⟩) ?_;clear hK K;refine zc rfl (λK hK=>?_);go_wp2;refine hK.out _ _ (λ_=>⟨kB2.drew.alloc _,kT2.drew.alloc _,hlkz.out _ (zg hb3 _),trivial⟩) ?_;clear hK K;refine zf ?_;obtain⟨W3,hW3⟩:∃W3,W3=(W2.alloc (.cells #[.int .u64 p0,.int .u64 q0,.string (bs y0)] 272)).drew:=⟨_,rfl⟩;have hbW3:Below w.heap.size w W3:=by rw [hW3];exact zn (zg hb2 _)
      have kT3:Blk W3 w1.heap.size #[.int .u8 118,.int .i64 i,.int .u64 b,.string (bs x)] 291:=by rw [hW3];exact(kT2.alloc _).drew
      have kW3:Blk W3 W2.heap.size #[.int .u64 p0,.int .u64 q0,.string (bs y0)] 272:=by rw [hW3];exact Blk.drew (Blk.new rfl)
      rw [← hW3];clear hW3 kB2 hb2 hb3 kT2;have cT3:=kT3.cell;have lT3:=kT3.lt;have cW3:=kW3.cell;have lW3:=kW3.lt;go_wp2;go_ret
      exact⟨_,rfl,ow,zq.of_below t ow (zg hbW3 _),(jV.loc B p t).below h0.out (zg hbW3 _)⟩
     ·rw [if_neg hVw]
      rw [show decide (((M,q0,y0):jl)≠(p0,q0,y0))=true by simp [hVw]] at hneq;simp only at hneq;replace hVw:=G hVw
      go_enter func131,ntmps131
      go_wp2_with fail
      refine(hread.out _).mono ?_;rintro e w1⟨a,b',c,d,rfl,hf,hb1⟩;obtain⟨rfl,hf2,rfl,rfl⟩:=hf _ _ _ _ rfl;obtain rfl:=hf2.symm;clear hf;have kB1:=hB.call hb1;have eB1:=kB1.cell;have lB1:=kB1.lt;go_wp2_with fail
      refine zd [O 0,O 1,O 2,O 3,O 4,O 5,O 6] none (λw'=>Blk w' B #[.map (some vb),.map (some kb),.int .i64 (p.length:Nat),.int .i64 0] 191/\Blk w' w1.heap.size #[.int .u8 118,.int .i64 i,.int .u64 b,.string (bs x)] 291/\True) (by kernel_rfl) (by kernel_rfl) ⟨(kB1.alloc _).drew,Blk.drew (Blk.new rfl),trivial⟩ ?_
      (repeat (refine za (v:=?_) rfl rfl (λw' h=>?_) (λK k=>?_);rotate_left;obtain⟨f1,f2,f3,_⟩:=h;(try have e1:=f1.cell);(try have e2:=f2.cell);(try have e3:=f3.cell);go_simp;(try with_reducible rfl);go_simp;refine k _ ?_;clear k K))
      refine zf ?_;go_wp2_with fail
      obtain⟨W2,hW2⟩:∃W2,W2=(w1.alloc (.cells #[.int .u8 118,.int .i64 i,.int .u64 b,.string (bs x)] 291)).drew:=⟨_,rfl⟩;have hb2:Below w.heap.size w W2:=by rw [hW2];exact zn (zg hb1 _)
      have kB2:Blk W2 B #[.map (some vb),.map (some kb),.int .i64 (p.length:Nat),.int .i64 0] 191:=by rw [hW2];exact(kB1.alloc _).drew
      have kT2:Blk W2 w1.heap.size #[.int .u8 118,.int .i64 i,.int .u64 b,.string (bs x)] 291:=by rw [hW2];exact Blk.drew (Blk.new rfl)
      rw [← hW2];clear hW2 eB1 lB1 kB1;have hb3:Below w.heap.size w W2.drew:=zn hb2;refine zd [O 0,O 1,O 2,O 3,O 4,O 5,O 6,E 7,E 8] none (λw'=>Blk w' B #[.map (some vb),.map (some kb),.int .i64 (p.length:Nat),.int .i64 0] 191/\Blk w' w1.heap.size #[.int .u8 118,.int .i64 i,.int .u64 b,.string (bs x)] 291/\(Instr.lookup 188 (.map (some vb)) (.int .i64 i) false).run prog w'=.ok (.agg #[.int .u64 p0,.int .u64 q0,.string (bs y0)]) w'/\True) (by kernel_rfl) (by kernel_rfl) ⟨kB2.drew,kT2.drew,hlkz.out _ hb3,trivial⟩ ?_
      (repeat (refine za (v:=?_) rfl rfl (λw' h=>?_) (λK k=>?_);rotate_left;obtain⟨f1,f2,f3,_⟩:=h;have e1:=f1.cell;have e2:=f2.cell;(try have e3:=f3.cell);go_simp;(try with_reducible rfl);go_simp;refine k _ ?_;clear k K))
      refine zc rfl (λK hK=>?_);go_wp2;refine hK.out _ _ (λ_=>⟨kB2.drew.alloc _,kT2.drew.alloc _,hlkz.out _ (zg hb3 _),trivial⟩) ?_;clear hK K;refine zc rfl (λK hK=>?_);go_wp2;refine hK.out _ _ (λ_=>⟨kB2.drew.alloc _,kT2.drew.alloc _,hlkz.out _ (zg hb3 _),trivial⟩) ?_;clear hK K;refine zf ?_;obtain⟨W3,hW3⟩:∃W3,W3=(W2.alloc (.cells #[.int .u64 p0,.int .u64 q0,.string (bs y0)] 272)).drew:=⟨_,rfl⟩;have hbW3:Below w.heap.size w W3:=by rw [hW3];exact zn (zg hb2 _)
      have kT3:Blk W3 w1.heap.size #[.int .u8 118,.int .i64 i,.int .u64 b,.string (bs x)] 291:=by rw [hW3];exact(kT2.alloc _).drew
      have kW3:Blk W3 W2.heap.size #[.int .u64 p0,.int .u64 q0,.string (bs y0)] 272:=by rw [hW3];exact Blk.drew (Blk.new rfl)
      rw [← hW3];clear hW3 kB2 hb2 hb3 kT2;have cT3:=kT3.cell;have lT3:=kT3.lt;have cW3:=kW3.cell;have lW3:=kW3.lt;go_wp2_with fail
      refine(hkeep.out _ ((jV.loc B p t).below h0.out (zg hbW3 _))).mono ?_;rintro e w5⟨rfl,ow5,hs5,h5⟩;go_wp2;go_ret
      exact⟨_,rfl,ow5,(zq.of_below t ow (zg hbW3 _)).trans hs5,h5⟩
    ·have t3:((k.toNat:Int)==118)=false:=by
      simp only [beq_eq_false_iff_ne,ne_eq];intro hc;exact h18 (UInt8.toNat_inj.1 (by simpa using(by omega:k.toNat=118)))
     replace h118:=G h118;replace h18:=G h18
     by_cases hVw:((M,q0,y0):jl)=(p0,q0,y0)
     ·rw [if_pos hVw]
      rw [show decide (((M,q0,y0):jl)≠(p0,q0,y0))=false by simp [hVw]] at hneq;simp only at hneq;replace hVw:=G hVw
      go_enter func131,ntmps131
      go_wp2_with fail
      refine(hread.out _).mono ?_;rintro e w1⟨a,b',c,d,rfl,hf,hb1⟩;obtain⟨rfl,hf2,rfl,rfl⟩:=hf _ _ _ _ rfl;obtain rfl:=hf2.symm;clear hf;have kB1:=hB.call hb1;have eB1:=kB1.cell;have lB1:=kB1.lt;go_wp2_with fail
      refine zd [O 0,O 1,O 2,O 3,O 4,O 5,O 6] none (λw'=>Blk w' B #[.map (some vb),.map (some kb),.int .i64 (p.length:Nat),.int .i64 0] 191/\Blk w' w1.heap.size #[.int .u8 k.toNat,.int .i64 i,.int .u64 b,.string (bs x)] 291/\True) (by kernel_rfl) (by kernel_rfl) ⟨(kB1.alloc _).drew,Blk.drew (Blk.new rfl),trivial⟩ ?_
      (repeat (refine za (v:=?_) rfl rfl (λw' h=>?_) (λK k=>?_);rotate_left;obtain⟨f1,f2,f3,_⟩:=h;(try have e1:=f1.cell);(try have e2:=f2.cell);(try have e3:=f3.cell);go_simp;(try with_reducible rfl);go_simp;refine k _ ?_;clear k K))
      refine zf ?_;go_wp2_with fail
      obtain⟨W2,hW2⟩:∃W2,W2=(w1.alloc (.cells #[.int .u8 k.toNat,.int .i64 i,.int .u64 b,.string (bs x)] 291)).drew:=⟨_,rfl⟩;have hb2:Below w.heap.size w W2:=by rw [hW2];exact zn (zg hb1 _)
      have kB2:Blk W2 B #[.map (some vb),.map (some kb),.int .i64 (p.length:Nat),.int .i64 0] 191:=by rw [hW2];exact(kB1.alloc _).drew
      have kT2:Blk W2 w1.heap.size #[.int .u8 k.toNat,.int .i64 i,.int .u64 b,.string (bs x)] 291:=by rw [hW2];exact Blk.drew (Blk.new rfl)
      rw [← hW2];clear hW2 eB1 lB1 kB1;have hb3:Below w.heap.size w W2.drew:=zn hb2;refine zd [O 0,O 1,O 2,O 3,O 4,O 5,O 6,E 7,E 8] none (λw'=>Blk w' B #[.map (some vb),.map (some kb),.int .i64 (p.length:Nat),.int .i64 0] 191/\Blk w' w1.heap.size #[.int .u8 k.toNat,.int .i64 i,.int .u64 b,.string (bs x)] 291/\(Instr.lookup 188 (.map (some vb)) (.int .i64 i) false).run prog w'=.ok (.agg #[.int .u64 p0,.int .u64 q0,.string (bs y0)]) w'/\True) (by kernel_rfl) (by kernel_rfl) ⟨kB2.drew,kT2.drew,hlkz.out _ hb3,trivial⟩ ?_
      (repeat (refine za (v:=?_) rfl rfl (λw' h=>?_) (λK k=>?_);rotate_left;obtain⟨f1,f2,f3,_⟩:=h;have e1:=f1.cell;have e2:=f2.cell;(try have e3:=f3.cell);go_simp;(try with_reducible rfl);go_simp;refine k _ ?_;clear k K))
      refine zc rfl (λK hK=>?_);go_wp2;refine hK.out _ _ (λ_=>⟨kB2.drew.alloc _,kT2.drew.alloc _,hlkz.out _ (zg hb3 _),trivial⟩) ?_;clear hK K;refine zc rfl (λK hK=>?_);go_wp2;refine hK.out _ _ (λ_=>⟨kB2.drew.alloc _,kT2.drew.alloc _,hlkz.out _ (zg hb3 _),trivial⟩) ?_;clear hK K;refine zf ?_;obtain⟨W3,hW3⟩:∃W3,W3=(W2.alloc (.cells #[.int .u64 p0,.int .u64 q0,.string (bs y0)] 272)).drew:=⟨_,rfl⟩;have hbW3:Below w.heap.size w W3:=by rw [hW3];exact zn (zg hb2 _)
      have kT3:Blk W3 w1.heap.size #[.int .u8 k.toNat,.int .i64 i,.int .u64 b,.string (bs x)] 291:=by rw [hW3];exact(kT2.alloc _).drew
      have kW3:Blk W3 W2.heap.size #[.int .u64 p0,.int .u64 q0,.string (bs y0)] 272:=by rw [hW3];exact Blk.drew (Blk.new rfl)
      rw [← hW3];clear hW3 kB2 hb2 hb3 kT2;have cT3:=kT3.cell;have lT3:=kT3.lt;have cW3:=kW3.cell;have lW3:=kW3.lt;go_wp2;go_ret
      exact⟨_,rfl,ow,zq.of_below t ow (zg hbW3 _),(jV.loc B p t).below h0.out (zg hbW3 _)⟩
     ·rw [if_neg hVw]
      rw [show decide (((M,q0,y0):jl)≠(p0,q0,y0))=true by simp [hVw]] at hneq;simp only at hneq;replace hVw:=G hVw
      go_enter func131,ntmps131
      go_wp2_with fail
      refine(hread.out _).mono ?_;rintro e w1⟨a,b',c,d,rfl,hf,hb1⟩;obtain⟨rfl,hf2,rfl,rfl⟩:=hf _ _ _ _ rfl;obtain rfl:=hf2.symm;clear hf;have kB1:=hB.call hb1;have eB1:=kB1.cell;have lB1:=kB1.lt;go_wp2_with fail
      refine zd [O 0,O 1,O 2,O 3,O 4,O 5,O 6] none (λw'=>Blk w' B #[.map (some vb),.map (some kb),.int .i64 (p.length:Nat),.int .i64 0] 191/\Blk w' w1.heap.size #[.int .u8 k.toNat,.int .i64 i,.int .u64 b,.string (bs x)] 291/\True) (by kernel_rfl) (by kernel_rfl) ⟨(kB1.alloc _).drew,Blk.drew (Blk.new rfl),trivial⟩ ?_
      (repeat (refine za (v:=?_) rfl rfl (λw' h=>?_) (λK k=>?_);rotate_left;obtain⟨f1,f2,f3,_⟩:=h;(try have e1:=f1.cell);(try have e2:=f2.cell);(try have e3:=f3.cell);go_simp;(try with_reducible rfl);go_simp;refine k _ ?_;clear k K))
      refine zf ?_;go_wp2_with fail
      obtain⟨W2,hW2⟩:∃W2,W2=(w1.alloc (.cells #[.int .u8 k.toNat,.int .i64 i,.int .u64 b,.string (bs x)] 291)).drew:=⟨_,rfl⟩;have hb2:Below w.heap.size w W2:=by rw [hW2];exact zn (zg hb1 _)
      have kB2:Blk W2 B #[.map (some vb),.map (some kb),.int .i64 (p.length:Nat),.int .i64 0] 191:=by rw [hW2];exact(kB1.alloc _).drew
      have kT2:Blk W2 w1.heap.size #[.int .u8 k.toNat,.int .i64 i,.int .u64 b,.string (bs x)] 291:=by rw [hW2];exact Blk.drew (Blk.new rfl)
      rw [← hW2];clear hW2 eB1 lB1 kB1;have hb3:Below w.heap.size w W2.drew:=zn hb2;refine zd [O 0,O 1,O 2,O 3,O 4,O 5,O 6,E 7,E 8] none (λw'=>Blk w' B #[.map (some vb),.map (some kb),.int .i64 (p.length:Nat),.int .i64 0] 191/\Blk w' w1.heap.size #[.int .u8 k.toNat,.int .i64 i,.int .u64 b,.string (bs x)] 291/\(Instr.lookup 188 (.map (some vb)) (.int .i64 i) false).run prog w'=.ok (.agg #[.int .u64 p0,.int .u64 q0,.string (bs y0)]) w'/\True) (by kernel_rfl) (by kernel_rfl) ⟨kB2.drew,kT2.drew,hlkz.out _ hb3,trivial⟩ ?_
      (repeat (refine za (v:=?_) rfl rfl (λw' h=>?_) (λK k=>?_);rotate_left;obtain⟨f1,f2,f3,_⟩:=h;have e1:=f1.cell;have e2:=f2.cell;(try have e3:=f3.cell);go_simp;(try with_reducible rfl);go_simp;refine k _ ?_;clear k K))
      refine zc rfl (λK hK=>?_);go_wp2;refine hK.out _ _ (λ_=>⟨kB2.drew.alloc _,kT2.drew.alloc _,hlkz.out _ (zg hb3 _),trivial⟩) ?_;clear hK K;refine zc rfl (λK hK=>?_);go_wp2;refine hK.out _ _ (λ_=>⟨kB2.drew.alloc _,kT2.drew.alloc _,hlkz.out _ (zg hb3 _),trivial⟩) ?_;clear hK K;refine zf ?_;obtain⟨W3,hW3⟩:∃W3,W3=(W2.alloc (.cells #[.int .u64 p0,.int .u64 q0,.string (bs y0)] 272)).drew:=⟨_,rfl⟩;have hbW3:Below w.heap.size w W3:=by rw [hW3];exact zn (zg hb2 _)
      have kT3:Blk W3 w1.heap.size #[.int .u8 k.toNat,.int .i64 i,.int .u64 b,.string (bs x)] 291:=by rw [hW3];exact(kT2.alloc _).drew
      have kW3:Blk W3 W2.heap.size #[.int .u64 p0,.int .u64 q0,.string (bs y0)] 272:=by rw [hW3];exact Blk.drew (Blk.new rfl)
      rw [← hW3];clear hW3 kB2 hb2 hb3 kT2;have cT3:=kT3.cell;have lT3:=kT3.lt;have cW3:=kW3.cell;have lW3:=kW3.lt;go_wp2_with fail
      refine(hkeep.out _ ((jV.loc B p t).below h0.out (zg hbW3 _))).mono ?_;rintro e w5⟨rfl,ow5,hs5,h5⟩;go_wp2;go_ret
      exact⟨_,rfl,ow5,(zq.of_below t ow (zg hbW3 _)).trans hs5,h5⟩
