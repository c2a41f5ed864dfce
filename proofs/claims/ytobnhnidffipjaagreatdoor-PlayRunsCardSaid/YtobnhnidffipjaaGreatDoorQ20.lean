/- PARTS OF THE PROOF. -/
import Derived.Test.YtobnhnidffipjaaGreatDoorQ19
set_option maxRecDepth 8000
set_option maxHeartbeats 4000000
open Go.Proofs.Tryz
namespace Go.Proofs.YtobnhnidffipjaaGreatDoor
open Go Go.RowKit Go.Shelf Go.Extern.Stop Go.Stop Go.Extern
attribute [local go_sem] Oper.semAt_some zw zn
theorem Ql(B:Nat)(p:xl)(t:List Nat)(ow:Own)(i:Int)(w:World)(h:jY B p t ow w):
 Calls prog 244 #[.pointer (some ⟨B,0,none⟩),.int .i64 i] w λe w'=>e=.returned (.int .i64 (if zP i then 0 else 2))/\w'=w:=by
 obtain⟨hl,vb,kb,hB, -⟩:=h;unfold qk at hB;have e0:=hB.cell;have hi:=Yp i w
 cases hin:zP i
 ·rw [hin] at hi
  replace hi:=G hi;clear hB;replace hin:=G hin
  go_enter func244,ntmps244
  go_wp2_with fail
  refine hi.out.mono ?_;rintro e w1⟨rfl,rfl⟩;go_wp2;go_ret
  exact⟨rfl,rfl⟩
 ·rw [hin] at hi
  have h1:1<=i:=by simp [zP] at hin;omega
  have t1:decide (i<=0)=false:=by simp;omega
  replace hi:=G hi;clear hB;replace hin:=G hin
  go_enter func244,ntmps244
  go_wp2_with fail
  refine hi.out.mono ?_;rintro e w1⟨rfl,rfl⟩;go_wp2;go_ret
  exact⟨rfl,rfl⟩
theorem XO(b:Nat)(w:World):(binOp .eql 188 (.map (some b)) (.map none)).run prog w=.ok (.bool false) w:=by kernel_rfl
theorem V5(b:Nat)(w:World):(binOp .eql 189 (.map (some b)) (.map none)).run prog w=.ok (.bool false) w:=by kernel_rfl
theorem Yq(B:Nat)(p:xl)(t:List Nat)(ow:Own)(i:Int)(v:jn)(w:World)(h:jY B p t ow w):
 Calls prog 177 #[.pointer (some ⟨B,0,none⟩),.int .i64 i,yJ v] w (V4 B {p with votes:=put i v p.votes} t ow w (.tuple #[])):=by
 obtain⟨hl,vb,kb,hB,hv,hk,hne,o1,o2,o3⟩:=h;unfold qk at hB;have hvB:B≠vb:=hB.ne_map hv;have hkB:B≠kb:=hB.ne_map hk;obtain⟨W1,hW1⟩:∃W1,W1=w.alloc (.cells #[.int .u64 (v.1:Nat),.int .u64 (v.2.1:Nat),.string (bs v.2.2)] 272):=⟨_,rfl⟩;have hb1:Below w.heap.size w W1:=by rw [hW1];exact pbx
 have hB1:=hB.call hb1;have kx:Blk W1 w.heap.size #[.int .u64 (v.1:Nat),.int .u64 (v.2.1:Nat),.string (bs v.2.2)] 272:=by rw [hW1];exact Blk.new rfl
 have hv1:zU W1 vb XK (p.votes.map λq=>(q.1,yJ q.2)):=hv.kept (hb1.block vb hv.lt);obtain⟨o,hu,hm⟩:=(hv1.kept (w':=W1.drew) rfl).update xJ Tryz.underlying188 i (yJ v);rw [q9] at hm;have hlt:vb<W1.heap.size:=hv1.lt;unfold yJ XK at hu;unfold yJ;have e0:=hB.cell;have l0:=hB.lt;have hnn:=XO vb;replace hm:=G hm;replace hv:=G hv;replace hk:=G hk;clear hv1
 go_enter func177,ntmps177
 go_wp2_with fail
 rw [← hW1];clear hW1;refine zd [O 0,O 1,O 2,O 3,O 4,O 5,E 6] (some 6) (λw'=>Blk w' B #[.map (some vb),.map (some kb),.int .i64 (p.length:Nat),.int .i64 0] 191/\Blk w' w.heap.size #[.int .u64 (v.1:Nat),.int .u64 (v.2.1:Nat),.string (bs v.2.2)] 272/\True) (by kernel_rfl) (by kernel_rfl) ⟨hB1.drew,kx.drew,trivial⟩ ?_
 (repeat (refine za (v:=?_) rfl rfl (λw' h=>?_) (λK k=>?_);rotate_left;obtain⟨f1,f2,_⟩:=h;have e1:=f1.cell;have e2:=f2.cell;go_simp;(try with_reducible rfl);go_simp;refine k _ ?_;clear k K))
 refine zc rfl (λK hK=>?_);go_wp2;refine hK.out _ _ (λhh=>absurd rfl hh) ?_;clear hK K;refine ze ?_;go_wp2;go_end0
 refine⟨rfl,ow,⟨?_,λ_ _=>rfl⟩,hl,vb,kb,?_,hm.out,?_,hne,o1,o2,o3⟩
 ·exact((Mod.of_below (λk=>Sub t (ow k)) hb1).thenDrew).thenPut (by rw [o2];exact Sub.rfl' t) o
 ·exact hB1.drew.putObj hvB o
 ·exact hk.out.kept ((U1 (Ne.symm hne)).trans (hb1.block kb hk.out.lt))
theorem V6(w:World):(zeroValue 272).run prog w=.ok (yJ (0,0,[])) w:=by kernel_rfl
theorem Zj(w:World):(zeroValue 308).run prog w=.ok (jV []) w:=by kernel_rfl
theorem V7(p:xl)(i:Int):(zJ i (p.votes.map λq=>(q.1,yJ q.2))).getD (yJ (0,0,[]))=yJ (zO p i):=by
 rw [vD];unfold zO;cases zJ i p.votes<;>rfl
theorem JM(B:Nat)(p:xl)(t:List Nat)(ow:Own)(i:Int)(w:World)(h:jY B p t ow w):
 Calls prog 141 #[.pointer (some ⟨B,0,none⟩),.int .i64 i] w λe w'=>e=.returned (.tuple #[.string (bs ((zJ i p.known).getD [])),.bool (zJ i p.known).isSome])/\Below w.heap.size w w':=by
 obtain⟨hl,vb,kb,hB,hv,hk,hne,o1,o2,o3⟩:=h;unfold qk at hB;have e0:=hB.cell;have hlk:=hk.lookup_ok xJ Tryz.underlying189 (Zj w) i;rw [vD,Option.isSome_map,show((zJ i p.known).map jV).getD (jV [])=jV ((zJ i p.known).getD [])by cases zJ i p.known<;>rfl] at hlk;unfold jV XK at hlk
 generalize(zJ i p.known).getD []=x at*
 generalize(zJ i p.known).isSome=b at*
 clear hB hv hk
 go_enter func141,ntmps141
 go_wp2;go_ret2
 exact⟨rfl,pbx⟩
theorem zd7(kind:UInt8)(i:Int)(h0:0<=i)(x:List UInt8)(b:Nat)(w:World)(hc:w.cell? ⟨b,0,none⟩=some (.string (bs x)))(hl:x.length<=1000000):
 Calls prog 211 #[.int .u8 (kind.toNat:Int),.int .i64 i,.slice (some ⟨b,0,none⟩) 1 1] w λe w'=>e=.returned (.string (bs (qX kind i x)))/\Below w.heap.size w w':=by
 have hsrc:Src w (.slice (some ⟨b,0,none⟩) 1 1) 1 [x].length (yB [x]):=⟨rfl,.inr ⟨b,0,1,rfl,N0 _,λj u hu=>by
  match j,hu with
  |0,hu=>cases hu;exact hc⟩⟩
 have:=zg5 kind i h0 _ [x] w hsrc (by simp) (by simp [QL];omega)
 rwa [show [x].flatten=x by simp] at this
theorem ziE(kind:UInt8)(i:Int)(h0:0<=i)(x y:List UInt8)(b:Nat)(w:World)(hc:w.cell? ⟨b,0,none⟩=some (.string (bs x)))(hc1:w.cell? ⟨b,1,none⟩=some (.string (bs y)))(hl:x.length<=1000000)(hl:y.length<=1000000):
 Calls prog 211 #[.int .u8 (kind.toNat:Int),.int .i64 i,.slice (some ⟨b,0,none⟩) 2 2] w λe w'=>e=.returned (.string (bs (qX kind i (x++y))))/\Below w.heap.size w w':=by
 have hsrc:Src w (.slice (some ⟨b,0,none⟩) 2 2) 1 [x,y].length (yB [x,y]):=⟨rfl,.inr ⟨b,0,2,rfl,N0 _,λj u hu=>by
  match j,hu with
  |0,hu=>cases hu;exact hc
  |1,hu=>cases hu;exact hc1⟩⟩
 have:=zg5 kind i h0 _ [x,y] w hsrc (by simp) (by simp [QL];omega)
 rwa [show [x,y].flatten=x++y by simp] at this
theorem zd8(n:Nat):(le8 n).length=8:=by simp [le8,jb]
def zg6(r:jn×List UInt8×Int):Value:=.tuple #[yJ r.1,.string (bs r.2.1),.int .i64 r.2.2]
theorem Q9(B:Nat)(p:xl)(t:List Nat)(ht:t≠ [])(ow:Own)(i:Int)(b:Nat)(hb:b<18446744073709551616)(w:World)(h:jY B p t ow w):
 Calls prog 205 #[.pointer (some ⟨B,0,none⟩),.int .i64 i,.int .u64 b] w (V4 B (zB p i b).1 t ow w (zg6 (zB p i b).2)):=by
 have hopen:=λW hW=>Ql B p t ow i W hW
 have hpp:zB p i b=if zP i=false then(p,(0,0,[]),[],2)else if(yx (zO p i) b).2≠0 then(p,(0,0,[]),[],(yx (zO p i) b).2)else({p with votes:=put i (yx (zO p i) b).1 p.votes},(yx (zO p i) b).1,qX 112 i (le8 b),0):=rfl
 have h0:=h;obtain⟨hl,vb,kb,hB,hv, -⟩:=h;unfold qk at hB
 cases hin:zP i
 ·rw [hin] at hopen
  rw [if_pos hin] at hpp;rw [hpp];replace hpp:=G hpp;replace hopen:=G hopen;replace h0:=G h0;replace hin:=G hin;unfold zg6 yJ;clear hB hv
  go_enter func205,ntmps205
  go_wp2_with fail
  refine(hopen.out _ ((jY.loc B p t).below h0.out (pbx))).mono ?_;rintro e w1⟨rfl,rfl⟩;go_wp2;exact bodyPost_ret (v:=.tuple #[.agg #[.int .u64 0,.int .u64 0,.string ⟨#[]⟩],.string ⟨#[]⟩,.int .i64 2]) (by simp [results,Tryz.results205,go_sem]) rfl ⟨rfl,ow,zq.of_below t ow (pbx),(jY.loc B p t).below h0.out (pbx)⟩
 ·rw [hin] at hopen
  rw [if_neg (by simp [hin])] at hpp;have hi0:0<=i:=by simp [zP] at hin;omega
  have hvp:=λW=>zbm (zO p i) b W
  have hlkz:∀W,Below w.heap.size w W->(Instr.lookup 188 (.map (some vb)) (.int .i64 i) false).run prog W=.ok (yJ (zO p i)) W:=λW hW=>by
   rw [← V7 p i];exact(hv.kept (hW.block vb hv.lt)).lookup xJ Tryz.underlying188 (V6 W) i
  obtain⟨⟨⟨p1,p2,p3⟩,er⟩,hpv⟩:∃r,yx (zO p i) b=r:=⟨_,rfl⟩;rw [hpv] at hvp hpp;have hlk:=hlkz (w.alloc (.cells #[.int .u64 0,.int .u64 0,.string ⟨#[]⟩] 272)) (pbx);unfold Q8 at hvp;unfold yJ at hvp hlk;simp only at hpp hvp;have e0:=hB.cell;have l0:=hB.lt;replace hpv:=G hpv;replace hlkz:=G hlkz;replace hvp:=G hvp;replace hopen:=G hopen;replace h0:=G h0;replace hin:=G hin;clear hB hv
  by_cases he:er=0
  ·subst he
   rw [if_neg (by simp)] at hpp;rw [hpp];replace hpp:=G hpp;have hkeep:=λW hW=>Yq B p t (ow.cut w) i (p1,p2,p3) W hW
   have hhal:=λW=>Qk b hb W
   unfold zg6;unfold yJ at hkeep⊢;simp only at hkeep⊢;replace hkeep:=G hkeep;replace hhal:=G hhal;obtain⟨rc,hrc⟩:∃rc,qX 112 i (le8 b)=rc:=⟨_,rfl⟩;have hrec:=λg W hc=>zd7 112 i hi0 (le8 b) g W hc (by rw [zd8];omega)
   rw [hrc] at hrec⊢;replace hrc:=G hrc;replace hrec:=G hrec
   go_enter func205,ntmps205
   go_wp2_with fail
   refine(hopen.out _ ((jY.loc B p t).below h0.out (pbx))).mono ?_;rintro e w1⟨rfl,rfl⟩;go_wp2_with fail
   refine(hvp.out _).mono ?_;rintro e w1⟨rfl,hb1⟩;clear hlk;have k6:Blk w1 w.heap.size #[.int .u64 0,.int .u64 0,.string ⟨#[]⟩] 272:=Blk.call (bkx) hb1;have hbw:Below w.heap.size w w1:=pbx;obtain⟨W2,hW2⟩:∃W2,W2=w1.alloc (.cells #[.int .u64 p1,.int .u64 p2,.string (bs p3)] 272):=⟨_,rfl⟩;have hb2:Below w.heap.size w W2:=by rw [hW2];exact pbx
   have k62:Blk W2 w.heap.size #[.int .u64 0,.int .u64 0,.string ⟨#[]⟩] 272:=by rw [hW2];exact k6.alloc _
   have kA2:Blk W2 w1.heap.size #[.int .u64 p1,.int .u64 p2,.string (bs p3)] 272:=by rw [hW2];exact Blk.new rfl
   have hz1:=hbw.size;have hl6:=k6.lt;clear k6;go_wp2_with fail
   rw [← hW2];refine(hkeep.out _ ((jY.loc B p t).cut h0.out hb2)).mono ?_;rintro e w3⟨rfl,ow3,hs3,h3⟩;have k63:=k62.kept (hs3.free ht (N0 _) k62.lt).1;have kA3:=kA2.kept (hs3.free ht hz1 kA2.lt).1;have hs3w:=zq.wrap hb2 hs3;have ho6:=(hs3.free ht (N0 _) k62.lt).2;clear k62 kA2 hs3;replace h3:=G h3;replace hs3w:=G hs3w;go_wp2_with fail
   refine zd [O 0,O 1,O 2,E 3,E 4,E 5,E 6,O 7,O 8] none (λw'=>Blk w' w1.heap.size #[.int .u64 p1,.int .u64 p2,.string (bs p3)] 272/\True) (by kernel_rfl) (by kernel_rfl) ⟨kA3.drew,trivial⟩ ?_
   (repeat (refine za (v:=?_) rfl rfl (λw' h=>?_) (λK k=>?_);rotate_left;obtain⟨f1,_⟩:=h;have e1:=f1.cell;go_simp;(try with_reducible rfl);go_simp;refine k _ ?_;clear k K))
   refine zc rfl (λK hK=>?_);go_wp2_with fail
   refine(hhal.out _).mono ?_;rintro e w4⟨rfl,hb4⟩;have kA4:=kA3.drew.call hb4;have k64:=k63.drew.call hb4;go_wp2;refine hK.out _ _ (λ_=>⟨kA4,trivial⟩) ?_;clear hK K;refine zc rfl (λK hK=>?_);go_wp2;refine hK.out _ _ (λ_=>⟨kA4.alloc _,trivial⟩) ?_;clear hK K;refine zc rfl (λK hK=>?_);go_wp2_with fail
   refine(hrec.out _ _ (by simp)).mono ?_;rintro e w5⟨rfl,hb5⟩;have kA5:=(kA4.alloc _).call hb5;have k65:=(k64.alloc _).call hb5;go_wp2;refine hK.out _ _ (λ_=>⟨kA5,trivial⟩) ?_;clear hK K;have c5:=k65.cell;have f5:=k65.frozen;have l5:=k65.lt;refine zc rfl (λK hK=>?_);go_wp2;have hneA:w1.heap.size≠w.heap.size:=by omega
   refine hK.out _ _ (λ_=>⟨((kA5.other (p:=⟨w.heap.size,0,none⟩) hneA _).other (p:=⟨w.heap.size,1,none⟩) hneA _).other (p:=⟨w.heap.size,2,none⟩) hneA _,trivial⟩) ?_;clear hK K
   (repeat (refine za (v:=?_) rfl rfl (λw' h=>?_) (λK k=>?_);rotate_left;obtain⟨f1,_⟩:=h;have e1:=f1.cell;go_simp;(try with_reducible rfl);go_simp;refine k _ ?_;clear k K))
   refine ze ?_;have rr:=(((k65.set (o:=0) (.int .u64 p1)).set (o:=1) (.int .u64 p2)).set (o:=2) (.string (bs p3))).cell;have hb35:Below w3.heap.size w3 w5:=zf (zg (zf (zo (N2 _ _)) hb4) _) hb5;have hs5:zq t ow w ow3 w5:=hs3w.out.trans (zq.of_below t ow3 hb35);go_wp2;refine bodyPost_ret (v:=.tuple #[.agg #[.int .u64 p1,.int .u64 p2,.string (bs p3)],.string (bs rc),.int .i64 0]) (by simp [results,Tryz.results205,go_sem,rr]) rfl ⟨rfl,ow3,?_,?_⟩
   ·exact((hs5.setNew ⟨w.heap.size,0,none⟩ _ (N0 _)).setNew ⟨w.heap.size,1,none⟩ _ (N0 _)).setNew ⟨w.heap.size,2,none⟩ _ (N0 _)
   ·refine jY.loc B _ t _ _ _ _ ((jY.loc B _ t).below h3.out hb35) (by simp) (λk hk hs=>⟨rfl,?_⟩)
    have hkn:k≠w.heap.size:=λe=>by subst e;rw [ho6] at hs;exact zi ht hs
    exact(N4 _ _ _ _ hkn).trans ((N4 _ _ _ _ hkn).trans (N4 _ _ _ _ hkn))
  ·rw [if_pos he] at hpp
   rw [hpp];replace hpp:=G hpp;have t1:(er !=0)=true:=by simpa using he
   replace he:=G he;unfold zg6 yJ
   go_enter func205,ntmps205
   go_wp2_with fail
   refine(hopen.out _ ((jY.loc B p t).below h0.out (pbx))).mono ?_;rintro e w1⟨rfl,rfl⟩;go_wp2_with fail
   refine(hvp.out _).mono ?_;rintro e w1⟨rfl,hb1⟩;have k6:Blk w1 w.heap.size #[.int .u64 0,.int .u64 0,.string ⟨#[]⟩] 272:=Blk.call (bkx) hb1;have c6:=k6.cell;have f6:=k6.frozen;have l6:=k6.lt;have hbw:Below w.heap.size w w1:=pbx;have rr:=((((k6.set (o:=0) (.int .u64 0)).set (o:=1) (.int .u64 0)).set (o:=2) (.string ⟨#[]⟩)).alloc (.cells #[.int .u64 p1,.int .u64 p2,.string (bs p3)] 272)).cell;have hbz:Below w.heap.size w ((((w1.setCell ⟨w.heap.size,0,none⟩ (.int .u64 0)).setCell ⟨w.heap.size,1,none⟩ (.int .u64 0)).setCell ⟨w.heap.size,2,none⟩ (.string ⟨#[]⟩)).alloc (.cells #[.int .u64 p1,.int .u64 p2,.string (bs p3)] 272)):=zg (zm (zm (zm hbw (by simp) _) (by simp) _) (by simp) _) _;go_wp2;exact bodyPost_ret (v:=.tuple #[.agg #[.int .u64 0,.int .u64 0,.string ⟨#[]⟩],.string ⟨#[]⟩,.int .i64 er]) (by simp [results,Tryz.results205,go_sem,rr]) rfl ⟨rfl,ow,zq.of_below t ow hbz,(jY.loc B p t).below h0.out hbz⟩
def Y5(r:List UInt8×Int):Value:=.tuple #[.string (bs r.1),.int .i64 r.2]
theorem zfd(B:Nat)(p:xl)(t:List Nat)(_ht:t≠ [])(ow:Own)(i:Int)(b:Nat)(hb:b<18446744073709551616)(x:List UInt8)(hx:x.length<=1000000)(w:World)(h:jY B p t ow w):
 Calls prog 204 #[.pointer (some ⟨B,0,none⟩),.int .i64 i,.int .u64 b,.string (bs x)] w (V4 B (vH p i b x).1 t ow w (Y5 (vH p i b x).2)):=by
 have hopen:=λW hW=>Ql B p t ow i W hW
 have hpp:vH p i b x=if zP i=false then(p,[],2)else if(VE (zO p i) b x).2≠0 then(p,[],(VE (zO p i) b x).2)else({p with votes:=put i (VE (zO p i) b x).1 p.votes},qX 118 i (le8 b++x),0):=rfl
 have h0:=h;obtain⟨hl,vb,kb,hB,hv, -⟩:=h;unfold qk at hB
 cases hin:zP i
 ·rw [hin] at hopen
  rw [if_pos hin] at hpp;rw [hpp];replace hpp:=G hpp;replace hopen:=G hopen;replace h0:=G h0;replace hin:=G hin;unfold Y5;clear hB hv
  go_enter func204,ntmps204
  go_wp2_with fail
  refine(hopen.out _ h0.out).mono ?_;rintro e w1⟨rfl,hww⟩;obtain rfl:=hww.symm;go_wp2;go_ret2
  exact⟨rfl,ow,zq.refl _ _ _,h0.out⟩
 ·rw [hin] at hopen
  rw [if_neg (by simp [hin])] at hpp;have hi0:0<=i:=by simp [zP] at hin;omega
  have hvp:=λW=>zg3 (zO p i) b x W
  have hlk:(Instr.lookup 188 (.map (some vb)) (.int .i64 i) false).run prog w=.ok (yJ (zO p i)) w:=by
   rw [← V7 p i];exact hv.lookup xJ Tryz.underlying188 (V6 w) i
  obtain⟨⟨⟨p1,p2,p3⟩,er⟩,hpv⟩:∃r,VE (zO p i) b x=r:=⟨_,rfl⟩;rw [hpv] at hvp hpp;unfold Q8 at hvp;unfold yJ at hvp hlk;simp only at hpp hvp;have e0:=hB.cell;have l0:=hB.lt;replace hpv:=G hpv;replace hvp:=G hvp;replace hopen:=G hopen;replace h0:=G h0;replace hin:=G hin;clear hB hv
  by_cases he:er=0
  ·subst he
   rw [if_neg (by simp)] at hpp;rw [hpp];replace hpp:=G hpp;have hkeep:=λW hW=>Yq B p t (ow.cut w) i (p1,p2,p3) W hW
   have hhal:=λW=>Qk b hb W
   unfold Y5;unfold yJ at hkeep;simp only at hkeep⊢;replace hkeep:=G hkeep;replace hhal:=G hhal;obtain⟨rc,hrc⟩:∃rc,qX 118 i (le8 b++x)=rc:=⟨_,rfl⟩;have hrec:=λg W hc hc1=>ziE 118 i hi0 (le8 b) x g W hc hc1 (by rw [zd8];omega) hx
   rw [hrc] at hrec⊢;replace hrc:=G hrc;replace hrec:=G hrec
   go_enter func204,ntmps204
   go_wp2_with fail
   refine(hopen.out _ h0.out).mono ?_;rintro e w1⟨rfl,hww⟩;obtain rfl:=hww.symm;go_wp2_with fail
   refine(hvp.out _).mono ?_;rintro e w1⟨rfl,hb1⟩;clear hlk;obtain⟨W2,hW2⟩:∃W2,W2=w1.alloc (.cells #[.int .u64 p1,.int .u64 p2,.string (bs p3)] 272):=⟨_,rfl⟩;have hb2:Below w.heap.size w W2:=by rw [hW2];exact zg hb1 _
   go_wp2_with fail
   rw [← hW2];clear hW2;refine(hkeep.out _ ((jY.loc B p t).cut h0.out hb2)).mono ?_;rintro e w3⟨rfl,ow3,hs3,h3⟩;have hs3w:=zq.wrap hb2 hs3;clear hs3;replace h3:=G h3;replace hs3w:=G hs3w;go_wp2_with fail
   refine(hhal.out _).mono ?_;rintro e w4⟨rfl,hb4⟩;go_wp2_with fail
   refine(hrec.out _ _ (by simp) (by simp)).mono ?_;rintro e w5⟨rfl,hb5⟩;go_wp2;go_ret2
   have hb35:Below w3.heap.size w3 w5:=zf (zg hb4 _) hb5;exact⟨rfl,ow3,hs3w.out.trans (zq.of_below t ow3 hb35),(jY.loc B _ t).below h3.out hb35⟩
  ·rw [if_pos he] at hpp
   rw [hpp];replace hpp:=G hpp;have t1:(er !=0)=true:=by simpa using he
   replace he:=G he;unfold Y5
   go_enter func204,ntmps204
   go_wp2_with fail
   refine(hopen.out _ h0.out).mono ?_;rintro e w1⟨rfl,hww⟩;obtain rfl:=hww.symm;go_wp2_with fail
   refine(hvp.out _).mono ?_;rintro e w1⟨rfl,hb1⟩;go_wp2;go_ret2
   exact⟨rfl,ow,zq.of_below t ow (zg hb1 _),(jY.loc B p t).below h0.out (zg hb1 _)⟩
theorem Qm {K:List (Int×List UInt8)}{k:Nat}(h:zJ ((k:Int)+1) K=none∨10000<=k):∀n,JC K n k=k
 |0=>rfl
 |n+1=>by
  unfold JC;rw [if_neg]
  rcases h with h|h
  ·rw [h];simp
  ·omega
theorem zfe {K:List (Int×List UInt8)}{k:Nat}(h:(zJ ((k:Int)+1) K).isSome=true)(hk:k<10000)(n:Nat):JC K (n+1) k=JC K n (k+1):=by
 rw [JC,if_pos ⟨h,hk⟩]
theorem zd9 {K:List (Int×List UInt8)} :∀(n k:Nat),k<=10000->JC K n k<=10000
 |0,k,h=>h
 |n+1,k,h=>by
  unfold JC
  split
  ·rename_i hh;exact zd9 n (k+1) (by omega)
  ·exact h
def zea(B vb kb:Nat)(K:List (Int×List UInt8))(L:Nat)(W0:World)(k:Nat)(X:Nat->Prop)(W:World):Prop:=
 Fr (λk=>k=B) W0 X W/\k<=10000/\(∃n,JC K n k=L/\10000<=n+k)/\Blk W B #[.map (some vb),.map (some kb),.int .i64 (k:Nat),.int .i64 0] 191
theorem zea.stab {B vb kb:Nat}{K:List (Int×List UInt8)}{L:Nat}{W0:World}(hB:B<W0.heap.size):XD (zea B vb kb K L W0):=
 λ_ _ _ _ _ h hm hx=>⟨h.1.step hm hx,h.2.1,h.2.2.1,h.2.2.2.kept (h.1.block hm hB)⟩
theorem V8(B:Nat)(p:xl)(t:List Nat)(ow:Own)(i:Int)(x:List UInt8)(hx:x.length<=1000000)(w:World)(h:jY B p t ow w):
 Calls prog 169 #[.pointer (some ⟨B,0,none⟩),.int .i64 i,.string (bs x)] w (V4 B (zV p i x).1 t ow w (Y5 (zV p i x).2)):=by
 have hinst:=λW=>Yp i W
 have hsz:=zC x
 have hlp:zV p i x=if zP i=false∨4000<x.length then(p,[],2)else(match zJ i p.known with
  |some y=>if y≠x then(p,([]:List UInt8),(91:Int))else(p,[],0)
  |none=>({p with known:=put i x p.known,length:=JC (put i x p.known) 10000 p.length},qX 100 i x,0)):=rfl
 have h0:=h;obtain⟨hl,vb,kb,hB,hv,hk,hne,o1,o2,o3⟩:=h;unfold qk at hB;have e0:=hB.cell;have l0:=hB.lt
 by_cases hbad:zP i=false∨4000<x.length
 ·rw [if_pos hbad] at hlp
  rw [hlp];replace hlp:=G hlp;unfold Y5
  cases hin:zP i
  ·rw [hin] at hinst
   replace hinst:=G hinst;replace h0:=G h0;replace hin:=G hin;replace hsz:=G hsz;clear hB hv hk hbad;refine zl func169 rfl ?_;simp only [ntmps169,R8,Nat.reduceAdd,Nat.reduceSub];go_wp2;go_step3;go_wp2_with fail
   refine(hinst.out _).mono ?_;rintro e w1⟨rfl,rfl⟩;go_wp2;rw [Exit.noGoto_ret];exact jw (v:=.tuple #[.string ⟨#[]⟩,.int .i64 2]) (by simp [results,Tryz.results169,go_sem]) ⟨rfl,ow,zq.of_below t ow (pbx),(jY.loc B p t).below h0.out (pbx)⟩
  ·have t0:decide ((4000:Int)<((bs x).size:Int))=true:=by rw [hsz];simp;rcases hbad with h|h;rw [hin] at h;cases h;omega
   rw [hin] at hinst;replace hinst:=G hinst;replace h0:=G h0;replace hin:=G hin;replace hsz:=G hsz;clear hB hv hk hbad;refine zl func169 rfl ?_;simp only [ntmps169,R8,Nat.reduceAdd,Nat.reduceSub];go_wp2;go_step3;go_wp2_with fail
   refine(hinst.out _).mono ?_;rintro e w1⟨rfl,rfl⟩;go_wp2;rw [Exit.noGoto_ret];exact jw (v:=.tuple #[.string ⟨#[]⟩,.int .i64 2]) (by simp [results,Tryz.results169,go_sem]) ⟨rfl,ow,zq.of_below t ow (pbx),(jY.loc B p t).below h0.out (pbx)⟩
 ·rw [if_neg hbad] at hlp
  have hin:zP i=true:=by cases h:zP i;exact absurd (.inl h) hbad;rfl
  have hx4:x.length<=4000:=by have:¬4000<x.length:=λh=>hbad (.inr h);omega
  have hi0:0<=i:=by simp [zP] at hin;omega
  have t0:decide ((4000:Int)<((bs x).size:Int))=false:=by rw [hsz];simp;omega
  rw [hin] at hinst
  have hlkz:∀W,Below w.heap.size w W->(Instr.lookup 189 (.map (some kb)) (.int .i64 i) true).run prog W=.ok (.tuple #[jV ((zJ i p.known).getD []),.bool (zJ i p.known).isSome]) W:=λW hW=>by
   have hlk:=(hk.kept (hW.block kb hk.lt)).lookup_ok xJ Tryz.underlying189 (Zj W) i;rw [vD,Option.isSome_map,show((zJ i p.known).map jV).getD (jV [])=jV ((zJ i p.known).getD [])by cases zJ i p.known<;>rfl] at hlk;exact hlk
  have hlk:=hlkz (w.alloc (.cells #[.pointer (some ⟨B,0,none⟩)] 89)) (pbx);unfold jV at hlk;clear hlkz;replace hinst:=G hinst;replace h0:=G h0;replace hin:=G hin;replace hsz:=G hsz;clear hbad
  cases hy:zJ i p.known with
  |some y=>
   rw [hy] at hlk hlp;simp only [Option.getD_some,Option.isSome_some] at hlk hlp;have hq:=zdV y x;clear hB hv hk
   by_cases hyx:y=x
   ·rw [if_neg (by simpa using hyx)] at hlp
    rw [hlp];rw [show decide (y=x)=true by simpa using hyx] at hq;replace hlp:=G hlp;replace hyx:=G hyx;replace hy:=G hy;unfold Y5;refine zl func169 rfl ?_;simp only [ntmps169,R8,Nat.reduceAdd,Nat.reduceSub];go_wp2;go_step3;go_wp2_with fail
    refine(hinst.out _).mono ?_;rintro e w1⟨rfl,rfl⟩;go_wp2;rw [Exit.noGoto_ret];exact jw (v:=.tuple #[.string ⟨#[]⟩,.int .i64 0]) (by simp [results,Tryz.results169,go_sem]) ⟨rfl,ow,zq.of_below t ow (pbx),(jY.loc B p t).below h0.out (pbx)⟩
   ·rw [if_pos (by simpa using hyx)] at hlp
    rw [hlp];rw [show decide (y=x)=false by simpa using hyx] at hq;replace hlp:=G hlp;replace hyx:=G hyx;replace hy:=G hy;unfold Y5;refine zl func169 rfl ?_;simp only [ntmps169,R8,Nat.reduceAdd,Nat.reduceSub];go_wp2;go_step3;go_wp2_with fail
    refine(hinst.out _).mono ?_;rintro e w1⟨rfl,rfl⟩;go_wp2;rw [Exit.noGoto_ret];exact jw (v:=.tuple #[.string ⟨#[]⟩,.int .i64 91]) (by simp [results,Tryz.results169,go_sem]) ⟨rfl,ow,zq.of_below t ow (pbx),(jY.loc B p t).below h0.out (pbx)⟩
  |none=>
   rw [hy] at hlk hlp;simp only [Option.getD_none,Option.isSome_none] at hlk hlp;obtain⟨W1,hW1⟩:∃W1,W1=(w.alloc (.cells #[.pointer (some ⟨B,0,none⟩)] 89)).alloc (.cells #[.string (bs [])] 308):=⟨_,rfl⟩;have hb1:Below w.heap.size w W1:=by rw [hW1];exact pbx
   obtain⟨o,hu,hm⟩:=(hk.kept (hb1.block kb hk.lt)).update xJ Tryz.underlying189 i (jV x);rw [q9] at hm;unfold jV XK at hu;have hkn:=V5 kb;replace hy:=G hy;rw [hW1] at hu;replace hm:=G hm;replace hv:=G hv;replace hk:=G hk;refine zl func169 rfl ?_;simp only [ntmps169,R8,Nat.reduceAdd,Nat.reduceSub];go_wp2;go_step3;go_wp2_with fail
   refine(hinst.out _).mono ?_;rintro e w1⟨rfl,rfl⟩;go_wp2;obtain⟨W2,hW2⟩:∃W2,W2=((w.alloc (.cells #[.pointer (some ⟨B,0,none⟩)] 89)).alloc (.cells #[.string (bs [])] 308)).putObj kb o:=⟨_,rfl⟩;rw [← hW2];have hBk:B≠kb:=hB.ne_map hk.out;have hMw:Mod (λk=>k=kb) w W2:=by rw [hW2,← hW1];exact(Mod.of_below (λk=>k=kb) hb1).thenPut rfl o
   have kB2:Blk W2 B #[.map (some vb),.map (some kb),.int .i64 (p.length:Nat),.int .i64 0] 191:=hB.mod hMw hBk;have k02:Blk W2 w.heap.size #[.pointer (some ⟨B,0,none⟩)] 89:=by rw [hW2];exact Blk.putObj (Blk.alloc (Blk.new rfl) _) (by have:=hk.out.lt;omega) o
   have hm2:zU W2 kb XK ((put i x p.known).map λq=>(q.1,jV q.2)):=by rw [hW2,← hW1];exact hm.out
   have hs2:w.heap.size+2<=W2.heap.size:=by rw [hW2];simp
   clear hW2 hu hm hW1 hb1 e0 hlk;obtain⟨L,hL⟩:∃L,JC (put i x p.known) 10000 p.length=L:=⟨_,rfl⟩;have hL4:L<=10000:=by rw [← hL];exact zd9 _ _ hl
   rw [hL] at hlp;obtain⟨rc,hrc⟩:∃rc,qX 100 i x=rc:=⟨_,rfl⟩;have hrec:=λg W hc=>zd7 100 i hi0 x g W hc hx
   rw [hrc] at hrec hlp;replace hrc:=G hrc;replace hrec:=G hrec
   generalize put i x p.known=K at*
   go_step3;have e2:=kB2.cell;have c2:=k02.cell;go_wp2_with fail
   refine(zfc _ _).mono ?_;rintro e w3⟨rfl,rfl⟩;clear e2 c2;go_wp2_with fail
   obtain⟨W0,hW0⟩:∃W0,W0=W2.alloc (.cells #[.int .i64 (p.length:Nat)] 3):=⟨_,rfl⟩;have kB0:Blk W0 B #[.map (some vb),.map (some kb),.int .i64 (p.length:Nat),.int .i64 0] 191:=by rw [hW0];exact kB2.alloc _
   have k00:Blk W0 w.heap.size #[.pointer (some ⟨B,0,none⟩)] 89:=by rw [hW0];exact k02.alloc _
   have kc0:Blk W0 W2.heap.size #[.int .i64 (p.length:Nat)] 3:=by rw [hW0];exact Blk.new rfl
   have hm0:zU W0 kb XK (K.map λq=>(q.1,jV q.2)):=by rw [hW0];exact hm2.kept (U4 _ _ _ hm2.lt)
   have hMw0:Mod (λk=>k=kb) w W0:=by rw [hW0];exact hMw.thenAlloc _
   rw [← hW0];clear hW0 kB2 k02 hm2 hMw;have hsz0:w.heap.size+2<=W0.heap.size:=by have:=kc0.lt;omega
   have hend:∀D X W,W0.heap.size<=D->Fr (λk=>k=B) W0 X W->Blk W B #[.map (some vb),.map (some kb),.int .i64 (L:Nat),.int .i64 0] 191->∀w5,Below W.heap.size W w5->
    V4 B (zV p i x).1 t ow w (Y5 (zV p i x).2) (.returned (.tuple #[.string (bs rc),.int .i64 0])) (w5.putObj D (.deferred none)):=by
    intro D X W hD hfr hBW w5 hb5;rw [hlp]
    have hMW:Mod (λk=>k=B∨k=kb) w (w5.putObj D (.deferred none)):=by
     have h1:=(hMw0.trans hfr.2 (Z:=λk=>k=B∨k=kb) (λ_ _ e=>.inr e) (λ_ _ e=>.inl e)).thenCall hb5;exact⟨h1.os,h1.tape,h1.output,by simpa using h1.size,λk hk hn=>(U1 (by omega)).trans (h1.block k hk hn)⟩
    have hlw:=hv.out.lt;have hkw:=hk.out.lt;refine⟨rfl,ow,⟨hMW.mono (λk _ e=>by rcases e with e|e;subst e;rw [o1];exact Sub.rfl' t;subst e;rw [o3];exact Sub.rfl' t),λ_ _=>rfl⟩,hL4,vb,kb,?_,?_,?_,hne,o1,o2,o3⟩
    ·exact(hBW.call hb5).putObj (by omega) _
    ·exact hv.out.kept (hMW.block vb hlw (λe=>by rcases e with e|e;exact hB.ne_map hv.out e.symm;exact hne e))
    ·refine(hm0.kept (hfr.2.block kb hm0.lt (Ne.symm hBk))).kept ((U1 (by omega)).trans (hb5.block kb ?_))
     have:=hfr.2.size;omega
   replace hend:=G hend;replace hlp:=G hlp
   refine yh (gf:=250) (lb:=#[.pointer (some ⟨W2.heap.size,0,none⟩)]) rfl (enters_of func250 (by kernel_rfl) rfl)
    (zcV W2.heap.size p.length hl) (λ_=>rfl)
    (λk X W=>zea B vb kb K L W0 k X W)
    (λc X W=>c=.exit 0/\Fr (λk=>k=B) W0 X W/\Blk W B #[.map (some vb),.map (some kb),.int .i64 (L:Nat),.int .i64 0] 191)
    (zea.stab kB0.lt)
    (λc _ X X' W W' h hm hx=>⟨h.1,h.2.1.step hm hx,h.2.2.kept (h.2.1.block hm kB0.lt)⟩)
    (λk X W h=>kc0.mod h.1.2 (by omega))
    ⟨Fr.refl _ _,hl,⟨10000,hL,by omega⟩,kB0⟩
    (λk=>[(10,.int .i64 (k:Nat))]) ?assign ?body ?done ?stop
   case assign=>
    intro l' y W K' hK;rw [zR] at hK⊢
    gi_wp2
    exact hK
   case body=>
    rintro l' k y X W⟨hfr,hk4,⟨n,hn,hnk⟩,hBW⟩⟨hk1,hyk⟩ hXl _;rw [zR];have hmW:=hm0.kept (hfr.2.block kb hm0.lt (Ne.symm hBk));have hlkW:=hmW.lookup_ok xJ Tryz.underlying189 (Zj W) (y:Int);rw [vD,Option.isSome_map,show((zJ (y:Int) K).map jV).getD (jV [])=jV ((zJ (y:Int) K).getD [])by cases zJ (y:Int) K<;>rfl] at hlkW;unfold jV XK at hlkW;have k0W:=k00.mod hfr.2 (by omega);have c0:=k0W.cell;have l0W:=k0W.lt;have eW:=hBW.cell;have fW:=hBW.frozen;have lW:=hBW.lt
    cases hlx:zJ (y:Int) K with
    |none=>
     rw [hlx] at hlkW;simp only [Option.getD_none,Option.isSome_none] at hlkW;have hst:k=L:=by rw [← hn];exact(Qm (.inl (by rw [hyk] at hlx;exact hlx)) n).symm
     subst hst;replace hlx:=G hlx;replace hyk:=G hyk;replace hn:=G hn
     gi_wp2
     have hm':Mod (λ_=>False) W (W.alloc (.cells #[.string (bs [])] 308)):=Mod.alloc _ _ _;exact⟨⟨rfl,hfr.mod hm' (λ_ _ h=>h.elim),hBW.alloc _⟩,ju.of_mod hm' (λ_ _ _ h=>h)⟩
    |some z=>
     rw [hlx] at hlkW;simp only [Option.getD_some,Option.isSome_some] at hlkW
     have hnx:JC K (n - 1) y=L:=by
      obtain⟨m,rfl⟩:∃m,n=m+1:=⟨n - 1,by omega⟩;rw [hyk] at hlx⊢;rw [← hn,zfe (by rw [show((k:Int)+1)=((k+1:Nat):Int)by omega,hlx];rfl) hk1];rfl
     replace hlx:=G hlx;replace hyk:=G hyk;replace hn:=G hn;replace hnx:=G hnx
     gi_wp2
     have hm':Mod (λk=>k=B) W ((W.setCell ⟨B,2,none⟩ (.int .i64 (y:Nat))).alloc (.cells #[.string (bs z)] 308)):=((Mod.refl (λk=>k=B) W).thenSet (p:=⟨B,2,none⟩) rfl _).thenAlloc _;obtain rfl:=hyk.out;exact⟨⟨hfr.mod hm' (λ_ _ h=>h),by omega,⟨n - 1,hnx.out,by omega⟩,(hBW.set (o:=2) _).alloc _⟩,ju.of_mod hm' (λk hk hX e=>by have:=hfr.1 k hX;have:=kB0.lt;omega)⟩
   case done=>
    rintro D k X W hD hXD hfin⟨hfr,hk4,⟨n,hn,hnk⟩,hBW⟩ hdef;have hfin':k=10000:=hfin;have hst:k=L:=by rw [← hn];exact(Qm (.inr (by omega)) n).symm
    subst hst;replace hn:=G hn;go_wp2_with fail
    refine(hrec.out _ _ (by simp)).mono ?_;rintro e w5⟨rfl,hb5⟩;go_wp2;rw [Exit.noGoto_ret];have hb5':Below W.heap.size W w5:=zf (zg (N2 _ _) _) hb5;have hdef5:w5.heap[D]?=some (.deferred (some [])):=(hb5'.block D (N5.1 hdef).1).trans hdef;exact zS (D:=D) (v:=.tuple #[.string (bs rc),.int .i64 0]) hdef5 (by simp [results,Tryz.results169,go_sem]) (hend.out D X W hD hfr hBW w5 hb5')
   case stop=>
    rintro D c X W hD hXD⟨rfl,hfr,hBW⟩ hdef;go_wp2_with fail
    refine(hrec.out _ _ (by simp)).mono ?_;rintro e w5⟨rfl,hb5⟩;go_wp2;rw [Exit.noGoto_ret];have hb5':Below W.heap.size W w5:=zf (zg (N2 _ _) _) hb5;have hdef5:w5.heap[D]?=some (.deferred (some [])):=(hb5'.block D (N5.1 hdef).1).trans hdef;exact zS (D:=D) (v:=.tuple #[.string (bs rc),.int .i64 0]) hdef5 (by simp [results,Tryz.results169,go_sem]) (hend.out D X W hD hfr hBW w5 hb5')
