/- PARTS OF THE PROOF. -/
import Derived.Test.YtofppfoioodblaaGreatDoorTT19
set_option maxRecDepth 8000
set_option maxHeartbeats 4000000
open Go.Proofs.Tryz
namespace Go.Proofs.YtofppfoioodblaaGreatDoor
open Go Go.RowKit Go.Shelf Go.Extern.Stop Go.Stop Go.Extern
attribute [local go_sem] Oper.semAt_some zv zm
theorem Qh(B:Nat)(p:xn)(t:List Nat)(ow:Own)(i:Int)(w:World)(h:j4 B p t ow w):
 Calls prog 299 #[.pointer (some ⟨B,0,none⟩),.int .i64 i] w λe w'=>e=.returned (.int .i64 (if zO i then 0 else 2))/\w'=w:=by
 obtain⟨hl,vb,kb,hB, -⟩:=h;unfold qf at hB;have e0:=hB.cell;have hi:=Yr i w
 cases hin:zO i
 ·rw [hin] at hi
  replace hi:=hid hi;clear hB;replace hin:=hid hin
  go_enter func299,ntmps299
  go_wp2_with fail
  refine hi.out.mono ?_;rintro e w1⟨rfl,rfl⟩;go_wp2;go_ret
  exact⟨rfl,rfl⟩
 ·rw [hin] at hi
  have h1:1<=i:=by simp [zO] at hin;omega
  have t1:decide (i<=0)=false:=by simp;omega
  replace hi:=hid hi;clear hB;replace hin:=hid hin
  go_enter func299,ntmps299
  go_wp2_with fail
  refine hi.out.mono ?_;rintro e w1⟨rfl,rfl⟩;go_wp2;go_ret
  exact⟨rfl,rfl⟩
theorem XO(b:Nat)(w:World):(binOp .eql 224 (.map (some b)) (.map none)).run prog w=.ok (.bool false) w:=by kernel_rfl
theorem V1(b:Nat)(w:World):(binOp .eql 225 (.map (some b)) (.map none)).run prog w=.ok (.bool false) w:=by kernel_rfl
theorem Ys(B:Nat)(p:xn)(t:List Nat)(ow:Own)(i:Int)(v:jl)(w:World)(h:j4 B p t ow w):
 Calls prog 213 #[.pointer (some ⟨B,0,none⟩),.int .i64 i,yN v] w (V0 B {p with votes:=put i v p.votes} t ow w (.tuple #[])):=by
 obtain⟨hl,vb,kb,hB,hv,hk,hne,o1,o2,o3⟩:=h;unfold qf at hB;have hvB:B≠vb:=hB.ne_map hv;have hkB:B≠kb:=hB.ne_map hk;obtain⟨W1,hW1⟩:∃W1,W1=w.alloc (.cells #[.int .u64 (v.1:Nat),.int .u64 (v.2.1:Nat),.string (bs v.2.2)] 317):=⟨_,rfl⟩;have hb1:Below w.heap.size w W1:=by rw [hW1];exact pbx
 have hB1:=hB.call hb1;have kx:Blk W1 w.heap.size #[.int .u64 (v.1:Nat),.int .u64 (v.2.1:Nat),.string (bs v.2.2)] 317:=by rw [hW1];exact Blk.new rfl
 have hv1:jc W1 vb XK (p.votes.map λq=>(q.1,yN q.2)):=hv.kept (hb1.block vb hv.lt);obtain⟨o,hu,hm⟩:=(hv1.kept (w':=W1.drew) rfl).update xN Tryz.underlying224 i (yN v);rw [Yb] at hm;have hlt:vb<W1.heap.size:=hv1.lt;unfold yN XK at hu;unfold yN;have e0:=hB.cell;have l0:=hB.lt;have hnn:=XO vb;replace hm:=hid hm;replace hv:=hid hv;replace hk:=hid hk;clear hv1
 go_enter func213,ntmps213
 go_wp2_with fail
 rw [← hW1];clear hW1;refine zd [O 0,O 1,O 2,O 3,O 4,O 5,E 6] (some 6) (λw'=>Blk w' B #[.map (some vb),.map (some kb),.int .i64 (p.length:Nat),.int .i64 0] 227/\Blk w' w.heap.size #[.int .u64 (v.1:Nat),.int .u64 (v.2.1:Nat),.string (bs v.2.2)] 317/\True) (by kernel_rfl) (by kernel_rfl) ⟨hB1.drew,kx.drew,trivial⟩ ?_
 (repeat (refine za (v:=?_) rfl rfl (λw' h=>?_) (λK k=>?_);rotate_left;obtain⟨f1,f2,_⟩:=h;have e1:=f1.cell;have e2:=f2.cell;go_simp;(try with_reducible rfl);go_simp;refine k _ ?_;clear k K))
 refine zc rfl (λK hK=>?_);go_wp2;refine hK.out _ _ (λhh=>absurd rfl hh) ?_;clear hK K;refine ze ?_;go_wp2;go_end0
 refine⟨rfl,ow,⟨?_,λ_ _=>rfl⟩,hl,vb,kb,?_,hm.out,?_,hne,o1,o2,o3⟩
 ·exact((Mod.of_below (λk=>Sub t (ow k)) hb1).thenDrew).thenPut (by rw [o2];exact Sub.rfl' t) o
 ·exact hB1.drew.putObj hvB o
 ·exact hk.out.kept ((U1 (Ne.symm hne)).trans (hb1.block kb hk.out.lt))
theorem V2(w:World):(zeroValue 317).run prog w=.ok (yN (0,0,[])) w:=by kernel_rfl
theorem Zg(w:World):(zeroValue 375).run prog w=.ok (jZ []) w:=by kernel_rfl
theorem V4(p:xn)(i:Int):(zD i (p.votes.map λq=>(q.1,yN q.2))).getD (yN (0,0,[]))=yN (zM p i):=by
 rw [xx];unfold zM;cases zD i p.votes<;>rfl
theorem JE(B:Nat)(p:xn)(t:List Nat)(ow:Own)(i:Int)(w:World)(h:j4 B p t ow w):
 Calls prog 189 #[.pointer (some ⟨B,0,none⟩),.int .i64 i] w λe w'=>e=.returned (.tuple #[.string (bs ((zD i p.known).getD [])),.bool (zD i p.known).isSome])/\Below w.heap.size w w':=by
 obtain⟨hl,vb,kb,hB,hv,hk,hne,o1,o2,o3⟩:=h;unfold qf at hB;have e0:=hB.cell;have hlk:=hk.lookup_ok xN Tryz.underlying225 (Zg w) i;rw [xx,Option.isSome_map,show((zD i p.known).map jZ).getD (jZ [])=jZ ((zD i p.known).getD [])by cases zD i p.known<;>rfl] at hlk;unfold jZ XK at hlk
 generalize(zD i p.known).getD []=x at*
 generalize(zD i p.known).isSome=b at*
 clear hB hv hk
 go_enter func189,ntmps189
 go_wp2;go_ret2
 exact⟨rfl,pbx⟩
theorem zd6(kind:UInt8)(i:Int)(h0:0<=i)(x:List UInt8)(b:Nat)(w:World)(hc:w.cell? ⟨b,0,none⟩=some (.string (bs x)))(hl:x.length<=1000000):
 Calls prog 255 #[.int .u8 (kind.toNat:Int),.int .i64 i,.slice (some ⟨b,0,none⟩) 1 1] w λe w'=>e=.returned (.string (bs (xr kind i x)))/\Below w.heap.size w w':=by
 have hsrc:Src w (.slice (some ⟨b,0,none⟩) 1 1) 1 [x].length (yD [x]):=⟨rfl,.inr ⟨b,0,1,rfl,N0 _,λj u hu=>by
  match j,hu with
  |0,hu=>cases hu;exact hc⟩⟩
 have:=zhc kind i h0 _ [x] w hsrc (by simp) (by simp [QN];omega)
 rwa [show [x].flatten=x by simp] at this
theorem ziZ(kind:UInt8)(i:Int)(h0:0<=i)(x y:List UInt8)(b:Nat)(w:World)(hc:w.cell? ⟨b,0,none⟩=some (.string (bs x)))(hc1:w.cell? ⟨b,1,none⟩=some (.string (bs y)))(hl:x.length<=1000000)(hl:y.length<=1000000):
 Calls prog 255 #[.int .u8 (kind.toNat:Int),.int .i64 i,.slice (some ⟨b,0,none⟩) 2 2] w λe w'=>e=.returned (.string (bs (xr kind i (x++y))))/\Below w.heap.size w w':=by
 have hsrc:Src w (.slice (some ⟨b,0,none⟩) 2 2) 1 [x,y].length (yD [x,y]):=⟨rfl,.inr ⟨b,0,2,rfl,N0 _,λj u hu=>by
  match j,hu with
  |0,hu=>cases hu;exact hc
  |1,hu=>cases hu;exact hc1⟩⟩
 have:=zhc kind i h0 _ [x,y] w hsrc (by simp) (by simp [QN];omega)
 rwa [show [x,y].flatten=x++y by simp] at this
theorem zd7(n:Nat):(le8 n).length=8:=by simp [le8,zY]
def zhd(r:jl×List UInt8×Int):Value:=.tuple #[yN r.1,.string (bs r.2.1),.int .i64 r.2.2]
theorem zab(B:Nat)(p:xn)(t:List Nat)(ht:t≠ [])(ow:Own)(i:Int)(b:Nat)(hb:b<18446744073709551616)(w:World)(h:j4 B p t ow w):
 Calls prog 249 #[.pointer (some ⟨B,0,none⟩),.int .i64 i,.int .u64 b] w (V0 B (zC p i b).1 t ow w (zhd (zC p i b).2)):=by
 have hopen:=λW hW=>Qh B p t ow i W hW
 have hpp:zC p i b=if zO i=false then(p,(0,0,[]),[],2)else if(yj (zM p i) b).2≠0 then(p,(0,0,[]),[],(yj (zM p i) b).2)else({p with votes:=put i (yj (zM p i) b).1 p.votes},(yj (zM p i) b).1,xr 112 i (le8 b),0):=rfl
 have h0:=h;obtain⟨hl,vb,kb,hB,hv, -⟩:=h;unfold qf at hB
 cases hin:zO i
 ·rw [hin] at hopen
  rw [if_pos hin] at hpp;rw [hpp];replace hpp:=hid hpp;replace hopen:=hid hopen;replace h0:=hid h0;replace hin:=hid hin;unfold zhd yN;clear hB hv
  go_enter func249,ntmps249
  go_wp2_with fail
  refine(hopen.out _ ((j4.loc B p t).below h0.out (pbx))).mono ?_;rintro e w1⟨rfl,rfl⟩;go_wp2;exact bodyPost_ret (v:=.tuple #[.agg #[.int .u64 0,.int .u64 0,.string ⟨#[]⟩],.string ⟨#[]⟩,.int .i64 2]) (by simp [results,Tryz.results249,go_sem]) rfl ⟨rfl,ow,zq.of_below t ow (pbx),(j4.loc B p t).below h0.out (pbx)⟩
 ·rw [hin] at hopen
  rw [if_neg (by simp [hin])] at hpp;have hi0:0<=i:=by simp [zO] at hin;omega
  have hvp:=λW=>zbq (zM p i) b W
  have hlkz:∀W,Below w.heap.size w W->(Instr.lookup 224 (.map (some vb)) (.int .i64 i) false).run prog W=.ok (yN (zM p i)) W:=λW hW=>by
   rw [← V4 p i];exact(hv.kept (hW.block vb hv.lt)).lookup xN Tryz.underlying224 (V2 W) i
  obtain⟨⟨⟨p1,p2,p3⟩,er⟩,hpv⟩:∃r,yj (zM p i) b=r:=⟨_,rfl⟩;rw [hpv] at hvp hpp;have hlk:=hlkz (w.alloc (.cells #[.int .u64 0,.int .u64 0,.string ⟨#[]⟩] 317)) (pbx);unfold zaa at hvp;unfold yN at hvp hlk;simp only at hpp hvp;have e0:=hB.cell;have l0:=hB.lt;replace hpv:=hid hpv;replace hlkz:=hid hlkz;replace hvp:=hid hvp;replace hopen:=hid hopen;replace h0:=hid h0;replace hin:=hid hin;clear hB hv
  by_cases he:er=0
  ·subst he
   rw [if_neg (by simp)] at hpp;rw [hpp];replace hpp:=hid hpp;have hkeep:=λW hW=>Ys B p t (ow.cut w) i (p1,p2,p3) W hW
   have hhal:=λW=>Qg b hb W
   unfold zhd;unfold yN at hkeep⊢;simp only at hkeep⊢;replace hkeep:=hid hkeep;replace hhal:=hid hhal;obtain⟨rc,hrc⟩:∃rc,xr 112 i (le8 b)=rc:=⟨_,rfl⟩;have hrec:=λg W hc=>zd6 112 i hi0 (le8 b) g W hc (by rw [zd7];omega)
   rw [hrc] at hrec⊢;replace hrc:=hid hrc;replace hrec:=hid hrec
   go_enter func249,ntmps249
   go_wp2_with fail
   refine(hopen.out _ ((j4.loc B p t).below h0.out (pbx))).mono ?_;rintro e w1⟨rfl,rfl⟩;go_wp2_with fail
   refine(hvp.out _).mono ?_;rintro e w1⟨rfl,hb1⟩;clear hlk;have k6:Blk w1 w.heap.size #[.int .u64 0,.int .u64 0,.string ⟨#[]⟩] 317:=Blk.call (bkx) hb1;have hbw:Below w.heap.size w w1:=pbx;obtain⟨W2,hW2⟩:∃W2,W2=w1.alloc (.cells #[.int .u64 p1,.int .u64 p2,.string (bs p3)] 317):=⟨_,rfl⟩;have hb2:Below w.heap.size w W2:=by rw [hW2];exact pbx
   have k62:Blk W2 w.heap.size #[.int .u64 0,.int .u64 0,.string ⟨#[]⟩] 317:=by rw [hW2];exact k6.alloc _
   have kA2:Blk W2 w1.heap.size #[.int .u64 p1,.int .u64 p2,.string (bs p3)] 317:=by rw [hW2];exact Blk.new rfl
   have hz1:=hbw.size;have hl6:=k6.lt;clear k6;go_wp2_with fail
   rw [← hW2];refine(hkeep.out _ ((j4.loc B p t).cut h0.out hb2)).mono ?_;rintro e w3⟨rfl,ow3,hs3,h3⟩;have k63:=k62.kept (hs3.free ht (N0 _) k62.lt).1;have kA3:=kA2.kept (hs3.free ht hz1 kA2.lt).1;have hs3w:=zq.wrap hb2 hs3;have ho6:=(hs3.free ht (N0 _) k62.lt).2;clear k62 kA2 hs3;replace h3:=hid h3;replace hs3w:=hid hs3w;go_wp2_with fail
   refine zd [O 0,O 1,O 2,E 3,E 4,E 5,E 6,O 7,O 8] none (λw'=>Blk w' w1.heap.size #[.int .u64 p1,.int .u64 p2,.string (bs p3)] 317/\True) (by kernel_rfl) (by kernel_rfl) ⟨kA3.drew,trivial⟩ ?_
   (repeat (refine za (v:=?_) rfl rfl (λw' h=>?_) (λK k=>?_);rotate_left;obtain⟨f1,_⟩:=h;have e1:=f1.cell;go_simp;(try with_reducible rfl);go_simp;refine k _ ?_;clear k K))
   refine zc rfl (λK hK=>?_);go_wp2_with fail
   refine(hhal.out _).mono ?_;rintro e w4⟨rfl,hb4⟩;have kA4:=kA3.drew.call hb4;have k64:=k63.drew.call hb4;go_wp2;refine hK.out _ _ (λ_=>⟨kA4,trivial⟩) ?_;clear hK K;refine zc rfl (λK hK=>?_);go_wp2;refine hK.out _ _ (λ_=>⟨kA4.alloc _,trivial⟩) ?_;clear hK K;refine zc rfl (λK hK=>?_);go_wp2_with fail
   refine(hrec.out _ _ (by simp)).mono ?_;rintro e w5⟨rfl,hb5⟩;have kA5:=(kA4.alloc _).call hb5;have k65:=(k64.alloc _).call hb5;go_wp2;refine hK.out _ _ (λ_=>⟨kA5,trivial⟩) ?_;clear hK K;have c5:=k65.cell;have f5:=k65.frozen;have l5:=k65.lt;refine zc rfl (λK hK=>?_);go_wp2;have hneA:w1.heap.size≠w.heap.size:=by omega
   refine hK.out _ _ (λ_=>⟨((kA5.other (p:=⟨w.heap.size,0,none⟩) hneA _).other (p:=⟨w.heap.size,1,none⟩) hneA _).other (p:=⟨w.heap.size,2,none⟩) hneA _,trivial⟩) ?_;clear hK K
   (repeat (refine za (v:=?_) rfl rfl (λw' h=>?_) (λK k=>?_);rotate_left;obtain⟨f1,_⟩:=h;have e1:=f1.cell;go_simp;(try with_reducible rfl);go_simp;refine k _ ?_;clear k K))
   refine ze ?_;have rr:=(((k65.set (o:=0) (.int .u64 p1)).set (o:=1) (.int .u64 p2)).set (o:=2) (.string (bs p3))).cell;have hb35:Below w3.heap.size w3 w5:=zg (zi (zg (zo (N2 _ _)) hb4) _) hb5;have hs5:zq t ow w ow3 w5:=hs3w.out.trans (zq.of_below t ow3 hb35);go_wp2;refine bodyPost_ret (v:=.tuple #[.agg #[.int .u64 p1,.int .u64 p2,.string (bs p3)],.string (bs rc),.int .i64 0]) (by simp [results,Tryz.results249,go_sem,rr]) rfl ⟨rfl,ow3,?_,?_⟩
   ·exact((hs5.setNew ⟨w.heap.size,0,none⟩ _ (N0 _)).setNew ⟨w.heap.size,1,none⟩ _ (N0 _)).setNew ⟨w.heap.size,2,none⟩ _ (N0 _)
   ·refine j4.loc B _ t _ _ _ _ ((j4.loc B _ t).below h3.out hb35) (by simp) (λk hk hs=>⟨rfl,?_⟩)
    have hkn:k≠w.heap.size:=λe=>by subst e;rw [ho6] at hs;exact zj ht hs
    exact(N4 _ _ _ _ hkn).trans ((N4 _ _ _ _ hkn).trans (N4 _ _ _ _ hkn))
  ·rw [if_pos he] at hpp
   rw [hpp];replace hpp:=hid hpp;have t1:(er !=0)=true:=by simpa using he
   replace he:=hid he;unfold zhd yN
   go_enter func249,ntmps249
   go_wp2_with fail
   refine(hopen.out _ ((j4.loc B p t).below h0.out (pbx))).mono ?_;rintro e w1⟨rfl,rfl⟩;go_wp2_with fail
   refine(hvp.out _).mono ?_;rintro e w1⟨rfl,hb1⟩;have k6:Blk w1 w.heap.size #[.int .u64 0,.int .u64 0,.string ⟨#[]⟩] 317:=Blk.call (bkx) hb1;have c6:=k6.cell;have f6:=k6.frozen;have l6:=k6.lt;have hbw:Below w.heap.size w w1:=pbx;have rr:=((((k6.set (o:=0) (.int .u64 0)).set (o:=1) (.int .u64 0)).set (o:=2) (.string ⟨#[]⟩)).alloc (.cells #[.int .u64 p1,.int .u64 p2,.string (bs p3)] 317)).cell;have hbz:Below w.heap.size w ((((w1.setCell ⟨w.heap.size,0,none⟩ (.int .u64 0)).setCell ⟨w.heap.size,1,none⟩ (.int .u64 0)).setCell ⟨w.heap.size,2,none⟩ (.string ⟨#[]⟩)).alloc (.cells #[.int .u64 p1,.int .u64 p2,.string (bs p3)] 317)):=zi (zn (zn (zn hbw (by simp) _) (by simp) _) (by simp) _) _;go_wp2;exact bodyPost_ret (v:=.tuple #[.agg #[.int .u64 0,.int .u64 0,.string ⟨#[]⟩],.string ⟨#[]⟩,.int .i64 er]) (by simp [results,Tryz.results249,go_sem,rr]) rfl ⟨rfl,ow,zq.of_below t ow hbz,(j4.loc B p t).below h0.out hbz⟩
def Y9(r:List UInt8×Int):Value:=.tuple #[.string (bs r.1),.int .i64 r.2]
theorem zfe(B:Nat)(p:xn)(t:List Nat)(_ht:t≠ [])(ow:Own)(i:Int)(b:Nat)(hb:b<18446744073709551616)(x:List UInt8)(hx:x.length<=1000000)(w:World)(h:j4 B p t ow w):
 Calls prog 248 #[.pointer (some ⟨B,0,none⟩),.int .i64 i,.int .u64 b,.string (bs x)] w (V0 B (vy p i b x).1 t ow w (Y9 (vy p i b x).2)):=by
 have hopen:=λW hW=>Qh B p t ow i W hW
 have hpp:vy p i b x=if zO i=false then(p,[],2)else if(Yj (zM p i) b x).2≠0 then(p,[],(Yj (zM p i) b x).2)else({p with votes:=put i (Yj (zM p i) b x).1 p.votes},xr 118 i (le8 b++x),0):=rfl
 have h0:=h;obtain⟨hl,vb,kb,hB,hv, -⟩:=h;unfold qf at hB
 cases hin:zO i
 ·rw [hin] at hopen
  rw [if_pos hin] at hpp;rw [hpp];replace hpp:=hid hpp;replace hopen:=hid hopen;replace h0:=hid h0;replace hin:=hid hin;unfold Y9;clear hB hv
  go_enter func248,ntmps248
  go_wp2_with fail
  refine(hopen.out _ h0.out).mono ?_;rintro e w1⟨rfl,hww⟩;obtain rfl:=hww.symm;go_wp2;go_ret2
  exact⟨rfl,ow,zq.refl _ _ _,h0.out⟩
 ·rw [hin] at hopen
  rw [if_neg (by simp [hin])] at hpp;have hi0:0<=i:=by simp [zO] at hin;omega
  have hvp:=λW=>zha (zM p i) b x W
  have hlk:(Instr.lookup 224 (.map (some vb)) (.int .i64 i) false).run prog w=.ok (yN (zM p i)) w:=by
   rw [← V4 p i];exact hv.lookup xN Tryz.underlying224 (V2 w) i
  obtain⟨⟨⟨p1,p2,p3⟩,er⟩,hpv⟩:∃r,Yj (zM p i) b x=r:=⟨_,rfl⟩;rw [hpv] at hvp hpp;unfold zaa at hvp;unfold yN at hvp hlk;simp only at hpp hvp;have e0:=hB.cell;have l0:=hB.lt;replace hpv:=hid hpv;replace hvp:=hid hvp;replace hopen:=hid hopen;replace h0:=hid h0;replace hin:=hid hin;clear hB hv
  by_cases he:er=0
  ·subst he
   rw [if_neg (by simp)] at hpp;rw [hpp];replace hpp:=hid hpp;have hkeep:=λW hW=>Ys B p t (ow.cut w) i (p1,p2,p3) W hW
   have hhal:=λW=>Qg b hb W
   unfold Y9;unfold yN at hkeep;simp only at hkeep⊢;replace hkeep:=hid hkeep;replace hhal:=hid hhal;obtain⟨rc,hrc⟩:∃rc,xr 118 i (le8 b++x)=rc:=⟨_,rfl⟩;have hrec:=λg W hc hc1=>ziZ 118 i hi0 (le8 b) x g W hc hc1 (by rw [zd7];omega) hx
   rw [hrc] at hrec⊢;replace hrc:=hid hrc;replace hrec:=hid hrec
   go_enter func248,ntmps248
   go_wp2_with fail
   refine(hopen.out _ h0.out).mono ?_;rintro e w1⟨rfl,hww⟩;obtain rfl:=hww.symm;go_wp2_with fail
   refine(hvp.out _).mono ?_;rintro e w1⟨rfl,hb1⟩;clear hlk;obtain⟨W2,hW2⟩:∃W2,W2=w1.alloc (.cells #[.int .u64 p1,.int .u64 p2,.string (bs p3)] 317):=⟨_,rfl⟩;have hb2:Below w.heap.size w W2:=by rw [hW2];exact zi hb1 _
   go_wp2_with fail
   rw [← hW2];clear hW2;refine(hkeep.out _ ((j4.loc B p t).cut h0.out hb2)).mono ?_;rintro e w3⟨rfl,ow3,hs3,h3⟩;have hs3w:=zq.wrap hb2 hs3;clear hs3;replace h3:=hid h3;replace hs3w:=hid hs3w;go_wp2_with fail
   refine(hhal.out _).mono ?_;rintro e w4⟨rfl,hb4⟩;go_wp2_with fail
   refine(hrec.out _ _ (by simp) (by simp)).mono ?_;rintro e w5⟨rfl,hb5⟩;go_wp2;go_ret2
   have hb35:Below w3.heap.size w3 w5:=zg (zi hb4 _) hb5;exact⟨rfl,ow3,hs3w.out.trans (zq.of_below t ow3 hb35),(j4.loc B _ t).below h3.out hb35⟩
  ·rw [if_pos he] at hpp
   rw [hpp];replace hpp:=hid hpp;have t1:(er !=0)=true:=by simpa using he
   replace he:=hid he;unfold Y9
   go_enter func248,ntmps248
   go_wp2_with fail
   refine(hopen.out _ h0.out).mono ?_;rintro e w1⟨rfl,hww⟩;obtain rfl:=hww.symm;go_wp2_with fail
   refine(hvp.out _).mono ?_;rintro e w1⟨rfl,hb1⟩;go_wp2;go_ret2
   exact⟨rfl,ow,zq.of_below t ow (zi hb1 _),(j4.loc B p t).below h0.out (zi hb1 _)⟩
theorem Qi {K:List (Int×List UInt8)}{k:Nat}(h:zD ((k:Int)+1) K=none∨10000<=k):∀n,Jv K n k=k
 |0=>rfl
 |n+1=>by
  unfold Jv;rw [if_neg]
  rcases h with h|h
  ·rw [h];simp
  ·omega
theorem zff {K:List (Int×List UInt8)}{k:Nat}(h:(zD ((k:Int)+1) K).isSome=true)(hk:k<10000)(n:Nat):Jv K (n+1) k=Jv K n (k+1):=by
 rw [Jv,if_pos ⟨h,hk⟩]
theorem zd8 {K:List (Int×List UInt8)} :∀(n k:Nat),k<=10000->Jv K n k<=10000
 |0,k,h=>h
 |n+1,k,h=>by
  unfold Jv
  split
  ·rename_i hh;exact zd8 n (k+1) (by omega)
  ·exact h
def zd9(B vb kb:Nat)(K:List (Int×List UInt8))(L:Nat)(W0:World)(k:Nat)(X:Nat->Prop)(W:World):Prop:=
 Fr (λk=>k=B) W0 X W/\k<=10000/\(∃n,Jv K n k=L/\10000<=n+k)/\Blk W B #[.map (some vb),.map (some kb),.int .i64 (k:Nat),.int .i64 0] 227
theorem zd9.stab {B vb kb:Nat}{K:List (Int×List UInt8)}{L:Nat}{W0:World}(hB:B<W0.heap.size):XE (zd9 B vb kb K L W0):=
 λ_ _ _ _ _ h hm hx=>⟨h.1.step hm hx,h.2.1,h.2.2.1,h.2.2.2.kept (h.1.block hm hB)⟩
theorem V5(B:Nat)(p:xn)(t:List Nat)(ow:Own)(i:Int)(x:List UInt8)(hx:x.length<=1000000)(w:World)(h:j4 B p t ow w):
 Calls prog 205 #[.pointer (some ⟨B,0,none⟩),.int .i64 i,.string (bs x)] w (V0 B (zS p i x).1 t ow w (Y9 (zS p i x).2)):=by
 have hinst:=λW=>Yr i W
 have hsz:=zJ x
 have hlp:zS p i x=if zO i=false∨4000<x.length then(p,[],2)else(match zD i p.known with
  |some y=>if y≠x then(p,([]:List UInt8),(91:Int))else(p,[],0)
  |none=>({p with known:=put i x p.known,length:=Jv (put i x p.known) 10000 p.length},xr 100 i x,0)):=rfl
 have h0:=h;obtain⟨hl,vb,kb,hB,hv,hk,hne,o1,o2,o3⟩:=h;unfold qf at hB;have e0:=hB.cell;have l0:=hB.lt
 by_cases hbad:zO i=false∨4000<x.length
 ·rw [if_pos hbad] at hlp
  rw [hlp];replace hlp:=hid hlp;unfold Y9
  cases hin:zO i
  ·rw [hin] at hinst
   replace hinst:=hid hinst;replace h0:=hid h0;replace hin:=hid hin;replace hsz:=hid hsz;clear hB hv hk hbad;refine zl func205 rfl ?_;simp only [ntmps205,R8,Nat.reduceAdd,Nat.reduceSub];go_wp2;go_step3;go_wp2_with fail
   refine(hinst.out _).mono ?_;rintro e w1⟨rfl,rfl⟩;go_wp2;rw [Exit.noGoto_ret];exact jI (v:=.tuple #[.string ⟨#[]⟩,.int .i64 2]) (by simp [results,Tryz.results205,go_sem]) ⟨rfl,ow,zq.of_below t ow (pbx),(j4.loc B p t).below h0.out (pbx)⟩
  ·have t0:decide ((4000:Int)<((bs x).size:Int))=true:=by rw [hsz];simp;rcases hbad with h|h;rw [hin] at h;cases h;omega
   rw [hin] at hinst;replace hinst:=hid hinst;replace h0:=hid h0;replace hin:=hid hin;replace hsz:=hid hsz;clear hB hv hk hbad;refine zl func205 rfl ?_;simp only [ntmps205,R8,Nat.reduceAdd,Nat.reduceSub];go_wp2;go_step3;go_wp2_with fail
   refine(hinst.out _).mono ?_;rintro e w1⟨rfl,rfl⟩;go_wp2;rw [Exit.noGoto_ret];exact jI (v:=.tuple #[.string ⟨#[]⟩,.int .i64 2]) (by simp [results,Tryz.results205,go_sem]) ⟨rfl,ow,zq.of_below t ow (pbx),(j4.loc B p t).below h0.out (pbx)⟩
 ·rw [if_neg hbad] at hlp
  have hin:zO i=true:=by cases h:zO i;exact absurd (.inl h) hbad;rfl
  have hx4:x.length<=4000:=by have:¬4000<x.length:=λh=>hbad (.inr h);omega
  have hi0:0<=i:=by simp [zO] at hin;omega
  have t0:decide ((4000:Int)<((bs x).size:Int))=false:=by rw [hsz];simp;omega
  rw [hin] at hinst
  have hlkz:∀W,Below w.heap.size w W->(Instr.lookup 225 (.map (some kb)) (.int .i64 i) true).run prog W=.ok (.tuple #[jZ ((zD i p.known).getD []),.bool (zD i p.known).isSome]) W:=λW hW=>by
   have hlk:=(hk.kept (hW.block kb hk.lt)).lookup_ok xN Tryz.underlying225 (Zg W) i;rw [xx,Option.isSome_map,show((zD i p.known).map jZ).getD (jZ [])=jZ ((zD i p.known).getD [])by cases zD i p.known<;>rfl] at hlk;exact hlk
  have hlk:=hlkz (w.alloc (.cells #[.pointer (some ⟨B,0,none⟩)] 92)) (pbx);unfold jZ at hlk;clear hlkz;replace hinst:=hid hinst;replace h0:=hid h0;replace hin:=hid hin;replace hsz:=hid hsz;clear hbad
  cases hy:zD i p.known with
  |some y=>
   rw [hy] at hlk hlp;simp only [Option.getD_some,Option.isSome_some] at hlk hlp;have hq:=zdV y x;clear hB hv hk
   by_cases hyx:y=x
   ·rw [if_neg (by simpa using hyx)] at hlp
    rw [hlp];rw [show decide (y=x)=true by simpa using hyx] at hq;replace hlp:=hid hlp;replace hyx:=hid hyx;replace hy:=hid hy;unfold Y9;refine zl func205 rfl ?_;simp only [ntmps205,R8,Nat.reduceAdd,Nat.reduceSub];go_wp2;go_step3;go_wp2_with fail
    refine(hinst.out _).mono ?_;rintro e w1⟨rfl,rfl⟩;go_wp2;rw [Exit.noGoto_ret];exact jI (v:=.tuple #[.string ⟨#[]⟩,.int .i64 0]) (by simp [results,Tryz.results205,go_sem]) ⟨rfl,ow,zq.of_below t ow (pbx),(j4.loc B p t).below h0.out (pbx)⟩
   ·rw [if_pos (by simpa using hyx)] at hlp
    rw [hlp];rw [show decide (y=x)=false by simpa using hyx] at hq;replace hlp:=hid hlp;replace hyx:=hid hyx;replace hy:=hid hy;unfold Y9;refine zl func205 rfl ?_;simp only [ntmps205,R8,Nat.reduceAdd,Nat.reduceSub];go_wp2;go_step3;go_wp2_with fail
    refine(hinst.out _).mono ?_;rintro e w1⟨rfl,rfl⟩;go_wp2;rw [Exit.noGoto_ret];exact jI (v:=.tuple #[.string ⟨#[]⟩,.int .i64 91]) (by simp [results,Tryz.results205,go_sem]) ⟨rfl,ow,zq.of_below t ow (pbx),(j4.loc B p t).below h0.out (pbx)⟩
  |none=>
   rw [hy] at hlk hlp;simp only [Option.getD_none,Option.isSome_none] at hlk hlp;obtain⟨W1,hW1⟩:∃W1,W1=(w.alloc (.cells #[.pointer (some ⟨B,0,none⟩)] 92)).alloc (.cells #[.string (bs [])] 375):=⟨_,rfl⟩;have hb1:Below w.heap.size w W1:=by rw [hW1];exact pbx
   obtain⟨o,hu,hm⟩:=(hk.kept (hb1.block kb hk.lt)).update xN Tryz.underlying225 i (jZ x);rw [Yb] at hm;unfold jZ XK at hu;have hkn:=V1 kb;replace hy:=hid hy;rw [hW1] at hu;replace hm:=hid hm;replace hv:=hid hv;replace hk:=hid hk;refine zl func205 rfl ?_;simp only [ntmps205,R8,Nat.reduceAdd,Nat.reduceSub];go_wp2;go_step3;go_wp2_with fail
   refine(hinst.out _).mono ?_;rintro e w1⟨rfl,rfl⟩;go_wp2;obtain⟨W2,hW2⟩:∃W2,W2=((w.alloc (.cells #[.pointer (some ⟨B,0,none⟩)] 92)).alloc (.cells #[.string (bs [])] 375)).putObj kb o:=⟨_,rfl⟩;rw [← hW2];have hBk:B≠kb:=hB.ne_map hk.out;have hMw:Mod (λk=>k=kb) w W2:=by rw [hW2,← hW1];exact(Mod.of_below (λk=>k=kb) hb1).thenPut rfl o
   have kB2:Blk W2 B #[.map (some vb),.map (some kb),.int .i64 (p.length:Nat),.int .i64 0] 227:=hB.mod hMw hBk;have k02:Blk W2 w.heap.size #[.pointer (some ⟨B,0,none⟩)] 92:=by rw [hW2];exact Blk.putObj (Blk.alloc (Blk.new rfl) _) (by have:=hk.out.lt;omega) o
   have hm2:jc W2 kb XK ((put i x p.known).map λq=>(q.1,jZ q.2)):=by rw [hW2,← hW1];exact hm.out
   have hs2:w.heap.size+2<=W2.heap.size:=by rw [hW2];simp
   clear hW2 hu hm hW1 hb1 e0 hlk;obtain⟨L,hL⟩:∃L,Jv (put i x p.known) 10000 p.length=L:=⟨_,rfl⟩;have hL4:L<=10000:=by rw [← hL];exact zd8 _ _ hl
   rw [hL] at hlp;obtain⟨rc,hrc⟩:∃rc,xr 100 i x=rc:=⟨_,rfl⟩;have hrec:=λg W hc=>zd6 100 i hi0 x g W hc hx
   rw [hrc] at hrec hlp;replace hrc:=hid hrc;replace hrec:=hid hrec
   generalize put i x p.known=K at*
   go_step3;have e2:=kB2.cell;have c2:=k02.cell;go_wp2_with fail
   refine(zfd _ _).mono ?_;rintro e w3⟨rfl,rfl⟩;clear e2 c2;go_wp2_with fail
   obtain⟨W0,hW0⟩:∃W0,W0=W2.alloc (.cells #[.int .i64 (p.length:Nat)] 3):=⟨_,rfl⟩;have kB0:Blk W0 B #[.map (some vb),.map (some kb),.int .i64 (p.length:Nat),.int .i64 0] 227:=by rw [hW0];exact kB2.alloc _
   have k00:Blk W0 w.heap.size #[.pointer (some ⟨B,0,none⟩)] 92:=by rw [hW0];exact k02.alloc _
   have kc0:Blk W0 W2.heap.size #[.int .i64 (p.length:Nat)] 3:=by rw [hW0];exact Blk.new rfl
   have hm0:jc W0 kb XK (K.map λq=>(q.1,jZ q.2)):=by rw [hW0];exact hm2.kept (U4 _ _ _ hm2.lt)
   have hMw0:Mod (λk=>k=kb) w W0:=by rw [hW0];exact hMw.thenAlloc _
   rw [← hW0];clear hW0 kB2 k02 hm2 hMw;have hsz0:w.heap.size+2<=W0.heap.size:=by have:=kc0.lt;omega
   have hend:∀D X W,W0.heap.size<=D->Fr (λk=>k=B) W0 X W->Blk W B #[.map (some vb),.map (some kb),.int .i64 (L:Nat),.int .i64 0] 227->∀w5,Below W.heap.size W w5->
    V0 B (zS p i x).1 t ow w (Y9 (zS p i x).2) (.returned (.tuple #[.string (bs rc),.int .i64 0])) (w5.putObj D (.deferred none)):=by
    intro D X W hD hfr hBW w5 hb5;rw [hlp]
    have hMW:Mod (λk=>k=B∨k=kb) w (w5.putObj D (.deferred none)):=by
     have h1:=(hMw0.trans hfr.2 (Z:=λk=>k=B∨k=kb) (λ_ _ e=>.inr e) (λ_ _ e=>.inl e)).thenCall hb5;exact⟨h1.os,h1.tape,h1.output,by simpa using h1.size,λk hk hn=>(U1 (by omega)).trans (h1.block k hk hn)⟩
    have hlw:=hv.out.lt;have hkw:=hk.out.lt;refine⟨rfl,ow,⟨hMW.mono (λk _ e=>by rcases e with e|e;subst e;rw [o1];exact Sub.rfl' t;subst e;rw [o3];exact Sub.rfl' t),λ_ _=>rfl⟩,hL4,vb,kb,?_,?_,?_,hne,o1,o2,o3⟩
    ·exact(hBW.call hb5).putObj (by omega) _
    ·exact hv.out.kept (hMW.block vb hlw (λe=>by rcases e with e|e;exact hB.ne_map hv.out e.symm;exact hne e))
    ·refine(hm0.kept (hfr.2.block kb hm0.lt (Ne.symm hBk))).kept ((U1 (by omega)).trans (hb5.block kb ?_))
     have:=hfr.2.size;omega
   replace hend:=hid hend;replace hlp:=hid hlp
   refine yT (gf:=305) (lb:=#[.pointer (some ⟨W2.heap.size,0,none⟩)]) rfl (enters_of func305 (by kernel_rfl) rfl)
    (zc1 W2.heap.size p.length hl) (λ_=>rfl)
    (λk X W=>zd9 B vb kb K L W0 k X W)
    (λc X W=>c=.exit 0/\Fr (λk=>k=B) W0 X W/\Blk W B #[.map (some vb),.map (some kb),.int .i64 (L:Nat),.int .i64 0] 227)
    (zd9.stab kB0.lt)
    (λc _ X X' W W' h hm hx=>⟨h.1,h.2.1.step hm hx,h.2.2.kept (h.2.1.block hm kB0.lt)⟩)
    (λk X W h=>kc0.mod h.1.2 (by omega))
    ⟨Fr.refl _ _,hl,⟨10000,hL,by omega⟩,kB0⟩
    (λk=>[(10,.int .i64 (k:Nat))]) ?assign ?body ?done ?stop
   case assign=>
    intro l' y W K' hK;rw [zZ] at hK⊢
    gi_wp2
    exact hK
   case body=>
    rintro l' k y X W⟨hfr,hk4,⟨n,hn,hnk⟩,hBW⟩⟨hk1,hyk⟩ hXl _;rw [zZ];have hmW:=hm0.kept (hfr.2.block kb hm0.lt (Ne.symm hBk));have hlkW:=hmW.lookup_ok xN Tryz.underlying225 (Zg W) (y:Int);rw [xx,Option.isSome_map,show((zD (y:Int) K).map jZ).getD (jZ [])=jZ ((zD (y:Int) K).getD [])by cases zD (y:Int) K<;>rfl] at hlkW;unfold jZ XK at hlkW;have k0W:=k00.mod hfr.2 (by omega);have c0:=k0W.cell;have l0W:=k0W.lt;have eW:=hBW.cell;have fW:=hBW.frozen;have lW:=hBW.lt
    cases hlx:zD (y:Int) K with
    |none=>
     rw [hlx] at hlkW;simp only [Option.getD_none,Option.isSome_none] at hlkW;have hst:k=L:=by rw [← hn];exact(Qi (.inl (by rw [hyk] at hlx;exact hlx)) n).symm
     subst hst;replace hlx:=hid hlx;replace hyk:=hid hyk;replace hn:=hid hn
     gi_wp2
     have hm':Mod (λ_=>False) W (W.alloc (.cells #[.string (bs [])] 375)):=Mod.alloc _ _ _;exact⟨⟨rfl,hfr.mod hm' (λ_ _ h=>h.elim),hBW.alloc _⟩,jB.of_mod hm' (λ_ _ _ h=>h)⟩
    |some z=>
     rw [hlx] at hlkW;simp only [Option.getD_some,Option.isSome_some] at hlkW
     have hnx:Jv K (n - 1) y=L:=by
      obtain⟨m,rfl⟩:∃m,n=m+1:=⟨n - 1,by omega⟩;rw [hyk] at hlx⊢;rw [← hn,zff (by rw [show((k:Int)+1)=((k+1:Nat):Int)by omega,hlx];rfl) hk1];rfl
     replace hlx:=hid hlx;replace hyk:=hid hyk;replace hn:=hid hn;replace hnx:=hid hnx
     gi_wp2
     have hm':Mod (λk=>k=B) W ((W.setCell ⟨B,2,none⟩ (.int .i64 (y:Nat))).alloc (.cells #[.string (bs z)] 375)):=((Mod.refl (λk=>k=B) W).thenSet (p:=⟨B,2,none⟩) rfl _).thenAlloc _;obtain rfl:=hyk.out;exact⟨⟨hfr.mod hm' (λ_ _ h=>h),by omega,⟨n - 1,hnx.out,by omega⟩,(hBW.set (o:=2) _).alloc _⟩,jB.of_mod hm' (λk hk hX e=>by have:=hfr.1 k hX;have:=kB0.lt;omega)⟩
   case done=>
    rintro D k X W hD hXD hfin⟨hfr,hk4,⟨n,hn,hnk⟩,hBW⟩ hdef;have hfin':k=10000:=hfin;have hst:k=L:=by rw [← hn];exact(Qi (.inr (by omega)) n).symm
    subst hst;replace hn:=hid hn;go_wp2_with fail
    refine(hrec.out _ _ (by simp)).mono ?_;rintro e w5⟨rfl,hb5⟩;go_wp2;rw [Exit.noGoto_ret];have hb5':Below W.heap.size W w5:=zg (zi (N2 _ _) _) hb5;have hdef5:w5.heap[D]?=some (.deferred (some [])):=(hb5'.block D (N5.1 hdef).1).trans hdef;exact z8 (D:=D) (v:=.tuple #[.string (bs rc),.int .i64 0]) hdef5 (by simp [results,Tryz.results205,go_sem]) (hend.out D X W hD hfr hBW w5 hb5')
   case stop=>
    rintro D c X W hD hXD⟨rfl,hfr,hBW⟩ hdef;go_wp2_with fail
    refine(hrec.out _ _ (by simp)).mono ?_;rintro e w5⟨rfl,hb5⟩;go_wp2;rw [Exit.noGoto_ret];have hb5':Below W.heap.size W w5:=zg (zi (N2 _ _) _) hb5;have hdef5:w5.heap[D]?=some (.deferred (some [])):=(hb5'.block D (N5.1 hdef).1).trans hdef;exact z8 (D:=D) (v:=.tuple #[.string (bs rc),.int .i64 0]) hdef5 (by simp [results,Tryz.results205,go_sem]) (hend.out D X W hD hfr hBW w5 hb5')
