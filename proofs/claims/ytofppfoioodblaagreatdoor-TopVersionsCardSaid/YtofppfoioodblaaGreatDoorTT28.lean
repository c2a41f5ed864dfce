/- PARTS OF THE PROOF. -/
import Derived.Test.YtofppfoioodblaaGreatDoorTT15
import Derived.Test.YtofppfoioodblaaGreatDoorTT27
set_option maxRecDepth 8000
set_option maxHeartbeats 4000000
open Go.Proofs.Tryz
namespace Go.Proofs.YtofppfoioodblaaGreatDoor
open Go Go.RowKit Go.Shelf Go.Extern.Stop Go.Stop Go.Extern
attribute [local go_sem] Oper.semAt_some zv zm
structure y8(B:Nat)(t:List Nat)(ow:Own)(w W0:World)(m:zp)(ow':Own)(X:Nat->Prop)(W:World):Prop where
 node:jC B m t ow' W
 st:zq t ow w ow' W
 sz:W0.heap.size<=W.heap.size
 free:∀k,w.heap.size<=k->k<W0.heap.size->ow' k=[]
 xs:∀k,X k->W0.heap.size<=k/\k<W.heap.size/\ow' k=[]
theorem y8.stab {B:Nat}{t:List Nat}(ht:t≠ []){ow:Own}{w W0:World}(hw:w.heap.size<=W0.heap.size){m:zp}{ow':Own}{X X':Nat->Prop}{W W':World}(h:y8 B t ow w W0 m ow' X W)(hm:Mod X W W')(hx:∀k,X' k->X k∨(W.heap.size<=k/\k<W'.heap.size)):
 y8 B t ow w W0 m (ow'.cut W) X' W' where
 node:=jC.loc B m t _ _ _ _ h.node hm.size (λk hk hs=>⟨Own.cut_old hk,hm.block k hk (λhX=>by rw [(h.xs k hX).2.2] at hs;exact zj ht hs)⟩)
 st:=⟨h.st.mod.trans hm (λ_ _ e=>e) (λk hk e=>by have:=(h.xs k e).1;omega),λk hk=>(Own.cut_old (by have:=h.st.size;omega)).trans (h.st.agree k hk)⟩
 sz:=Nat.le_trans h.sz hm.size
 free:=λk h1 h2=>by rw [Own.cut_old (by have:=h.sz;omega)];exact h.free k h1 h2
 xs:=λk hk=>by
  have hs:=hm.size
  rcases hx k hk with h1|h1
  ·have h2:=h.xs k h1
   exact⟨h2.1,by omega,by rw [Own.cut_old h2.2.1];exact h2.2.2⟩
  ·exact⟨by have:=h.sz;omega,by omega,Own.cut_new h1.1⟩
theorem y8.blk {B:Nat}{t:List Nat}{ow:Own}{w W0:World}{m:zp}{ow':Own}{X:Nat->Prop}{W W':World}(h:y8 B t ow w W0 m ow' X W)(hm:Mod X W W'){k:Nat}(hk:k<W0.heap.size):W'.heap[k]?=W.heap[k]?:=
 hm.block k (by have:=h.sz;omega) (λe=>by have:=(h.xs k e).1;omega)
theorem y8.step {B:Nat}{t:List Nat}{ow:Own}{w W0:World}{m m':zp}{ow1 ow2:Own}{X:Nat->Prop}{W W':World}(h:y8 B t ow w W0 m ow1 X W)(hs:zq t ow1 W ow2 W')(hn:jC B m' t ow2 W'):y8 B t ow w W0 m' ow2 X W' where
 node:=hn
 st:=h.st.trans hs
 sz:=Nat.le_trans h.sz hs.size
 free:=λk h1 h2=>by rw [hs.agree k (by have:=h.sz;omega)];exact h.free k h1 h2
 xs:=λk hk=>by
  have h2:=h.xs k hk;exact⟨h2.1,by have:=hs.size;omega,by rw [hs.agree k h2.2.1];exact h2.2.2⟩
theorem y8.saves {B:Nat}{t:List Nat}(ht:t≠ []){ow:Own}{w W0:World}{m:zp}{ow1 ow2:Own}{X:Nat->Prop}{W W':World}(h:y8 B t ow w W0 m ow1 X W)(hs:zq t ow1 W ow2 W'):jB X W W':=
 ⟨hs.size,λk hX hk=>hs.block hk (by rw [(h.xs k hX).2.2];exact zj ht)⟩
theorem y8.set {B:Nat}{t:List Nat}{ow:Own}{w W0:World}{m:zp}{ow1:Own}{X:Nat->Prop}{W:World}(ht:t≠ [])(h:y8 B t ow w W0 m ow1 X W){p:Addr}(hp:w.heap.size<=p.block)(hp2:ow1 p.block=[])(v:Value):y8 B t ow w W0 m ow1 X (W.setCell p v) where
 node:=jC.loc B m t _ _ _ _ h.node (by simp) (λk hk hs=>⟨rfl,N4 _ _ _ _ (λe=>by subst e;rw [hp2] at hs;exact zj ht hs)⟩)
 st:=h.st.setNew p v hp
 sz:=by have:=h.sz;simpa using this
 free:=h.free
 xs:=λk hk=>by simpa using h.xs k hk
structure zjD(B:Nat)(t:List Nat)(ow:Own)(w W0:World)(kb:Nat)(ms:List zy)(v:Value)(ow':Own)(X:Nat->Prop)(W:World):Prop where
 kS:Blk W kb #[v] 42
 row:Row W 78 3 v ms.length (ms.flatMap zh)
 new:∀g,v.ownBlock=some g->w.heap.size<=g/\ow' g=[] /\¬X g
theorem zjD.stab {B:Nat}{t:List Nat}{ow:Own}{w W0:World}{kb:Nat}{m:zp}{ms:List zy}{v:Value}{ow':Own}{X X':Nat->Prop}{W W':World}(hN:y8 B t ow w W0 m ow' X W)(h:zjD B t ow w W0 kb ms v ow' X W)(hk:kb<W0.heap.size)(hm:Mod X W W')(hx:∀k,X' k->X k∨(W.heap.size<=k/\k<W'.heap.size)):
 zjD B t ow w W0 kb ms v (ow'.cut W) X' W' where
 kS:=h.kS.kept (hN.blk hm hk)
 row:=h.row.mod hm (λg hg=>(h.new g hg).2.2)
 new:=λg hg=>⟨(h.new g hg).1,by rw [Own.cut_old (h.row.lt hg)];exact(h.new g hg).2.1,λhX=>by
  rcases hx g hX with h1|h1
  ·exact(h.new g hg).2.2 h1
  ·have:=h.row.lt hg;omega⟩
theorem y8.grown {B:Nat}{t:List Nat}(ht:t≠ []){ow:Own}{w W0:World}{m:zp}{ow1:Own}{X:Nat->Prop}{W W':World}{v:Value}(h:y8 B t ow w W0 m ow1 X W)(hg:W.grownBy W' v.ownBlock)(hv:∀g,v.ownBlock=some g->w.heap.size<=g/\ow1 g=[] /\¬X g):y8 B t ow w W0 m (ow1.cut W) X W' where
 node:=jC.loc B m t _ _ _ _ h.node hg.size (λk hk hs=>⟨Own.cut_old hk,hg.block k hk (λe=>by rw [(hv k e.symm).2.1] at hs;exact zj ht hs)⟩)
 st:=⟨h.st.mod.trans (Mod.grown (X:=λk=>v.ownBlock=some k) hg (λk h=>h)) (λ_ _ e=>e) (λk hk e=>by have:=(hv k e).1;omega),λk hk=>(Own.cut_old (by have:=h.st.size;omega)).trans (h.st.agree k hk)⟩
 sz:=Nat.le_trans h.sz hg.size
 free:=λk h1 h2=>by rw [Own.cut_old (by have:=h.sz;omega)];exact h.free k h1 h2
 xs:=λk hk=>by
  have h2:=h.xs k hk;exact⟨h2.1,by have:=hg.size;omega,by rw [Own.cut_old h2.2.1];exact h2.2.2⟩
theorem zfq(L:zR)(e:jy)(f:Bool):(j6 L e f).1.log=L.log++(j6 L e f).2.1:=by
 unfold j6
 split
 ·simp
 ·unfold yw
  split
  ·unfold qo;simp [(xS L _ f).2]
  ·unfold qo;simp [(xS L _ f).2,(xS L _ f).1]
theorem zfr(s:List UInt8):(jK s).1.length<=64:=by
 unfold jK
 split
 ·simp
 ·rename_i b r
  split
  ·simp
  ·rename_i hb
   split
   ·simp
   ·rename_i l hl
    rw [Z4 _ _ _ hl];omega
theorem zfs(s:List UInt8):(jo s).1.msgs.length<=64:=by
 unfold jo
 split
 ·simp
 ·split
  ·simp
  ·split
   ·exact zfr _
   ·simp
structure Va(n:zp)(k:Nat)(m:zp)(ms:List zy):Prop where
 app:m.applied+1=k
 pax:m.pax=n.pax
 acc:m.acc=n.acc
 bad:m.bad=n.bad
 few:vQ m.loc m.applied
 log:m.loc.log=n.loc.log++ms
 far:∃f,f+k=10001+(n.applied+1)/\jn 10001 n=((jn f m).1,ms++(jn f m).2)
theorem Va.bad1 {n m:zp}{k:Nat}{ms:List zy}(h:Va n k m ms){x:List UInt8}(hx:zD (k:Int) n.pax.known=some x)(hk:k<=10000)(hd:(jo x).2≠0):Va n (k+1) {m with applied:=m.applied+1} ms:=by
 obtain⟨f,hf,hf2⟩:=h.far;obtain⟨f',rfl⟩:∃f',f=f'+1:=⟨f - 1,by omega⟩;refine⟨by show m.applied+1+1=_;rw [h.app],h.pax,h.acc,h.bad,h.few.mono (by simp),h.log,f',by omega,?_⟩;rw [hf2,jn,h.pax,show(m.applied:Int)+1=(k:Int)by have:=h.app;omega,hx];simp only;rw [if_pos hd]
theorem Va.ok1 {n m:zp}{k:Nat}{ms:List zy}(h:Va n k m ms){x:List UInt8}(hx:zD (k:Int) n.pax.known=some x)(hk:k<=10000)(hd:(jo x).2=0):
 Va n (k+1) (vJ {m with applied:=m.applied+1} (jo x).1).1 (ms++(vJ {m with applied:=m.applied+1} (jo x).1).2):=by
 obtain⟨f,hf,hf2⟩:=h.far;obtain⟨f',rfl⟩:∃f',f=f'+1:=⟨f - 1,by omega⟩;obtain⟨hs,hl,ha⟩:=Yn {m with applied:=m.applied+1} (jo x).1;have hq:(vJ {m with applied:=m.applied+1} (jo x).1).2=(j6 m.loc (jo x).1 (m.bad.contains (xP {m with applied:=m.applied+1} (jo x).1))).2.1:=rfl;have hl':(vJ {m with applied:=m.applied+1} (jo x).1).1.loc=(j6 m.loc (jo x).1 (m.bad.contains (xP {m with applied:=m.applied+1} (jo x).1))).1:=hl;refine⟨by rw [ha];show m.applied+1+1=_;rw [h.app],hs.pax.trans h.pax,hs.acc.trans h.acc,hs.bad.trans h.bad,?_,?_,f',by omega,?_⟩
 ·rw [ha,hl'];exact Q2 h.few _ _
 ·rw [hl',hq,zfq,h.log,List.append_assoc]
 ·rw [hf2,jn,h.pax,show(m.applied:Int)+1=(k:Int)by have:=h.app;omega,hx]
  simp only;rw [if_neg (by simpa using hd),List.append_assoc]
theorem Va.few2 {n m:zp}{k:Nat}{ms:List zy}(h:Va n k m ms):ms.length<=64*k:=by
 have h1:=h.few.len;have h2:=congrArg List.length h.log;have h3:=h.app;rw [N1] at h2;omega
theorem Va.fin {n m:zp}{k:Nat}{ms:List zy}(h:Va n k m ms)(hx:zD (k:Int) n.pax.known=none):jn 10001 n=(m,ms):=by
 obtain⟨f,hf,hf2⟩:=h.far;rw [hf2]
 cases f with
 |zero=>simp [jn]
 |succ f=>
  rw [jn,h.pax,show(m.applied:Int)+1=(k:Int)by have:=h.app;omega,hx];simp
theorem y8.own {B:Nat}{t:List Nat}(ht:t≠ []){ow:Own}{w W0:World}{m:zp}{ow1 ow2:Own}{X:Nat->Prop}{W W':World}(h:y8 B t ow w W0 m ow1 X W)(hs:zq t ow1 W ow2 W'){k:Nat}(hk:w.heap.size<=k)(hk2:k<W0.heap.size):W'.heap[k]?=W.heap[k]?:=
 hs.block (by have:=h.sz;omega) (by rw [h.free k hk hk2];exact zj ht)
theorem zjD.step {B:Nat}{t:List Nat}(ht:t≠ []){ow:Own}{w W0:World}{kb:Nat}{m:zp}{ms:List zy}{v:Value}{ow1 ow2:Own}{X:Nat->Prop}{W W':World}(hN:y8 B t ow w W0 m ow1 X W)(h:zjD B t ow w W0 kb ms v ow1 X W)(hk:w.heap.size<=kb)(hk2:kb<W0.heap.size)(hs:zq t ow1 W ow2 W'):zjD B t ow w W0 kb ms v ow2 X W' where
 kS:=h.kS.kept (hN.own ht hs hk hk2)
 row:=h.row.step hs (λg hg=>by rw [(h.new g hg).2.1];exact zj ht)
 new:=λg hg=>⟨(h.new g hg).1,by rw [hs.agree g (h.row.lt hg)];exact(h.new g hg).2.1,(h.new g hg).2.2⟩
theorem Yw(a:Addr)(B:Nat)(n:zp)(t:List Nat)(ht:t≠ [])(ow:Own)(w:World)(hN:jC B n t ow w)(he:jE w a)(hge:ow 2=[])
 (hb:vQ n.loc n.applied) (hap:n.applied<=10000) (hacc:n.acc.length<=200000) (hkn:yp n.pax.known) (hbad:n.bad=[]):
 Calls prog 109 #[.pointer (some ⟨B,0,none⟩)] w (xV B t ow w (jn 10001 n)):=by
 obtain⟨px,sb,lb,pb,av,hI⟩:=hN;have hB:=hI.blk;unfold zz at hB;have cB:=hB.cell;have lB:=hB.lt;have hwa:IntKind.i64.wrap ((n.applied:Int)+1)=(n.applied:Int)+1:=by rw [N8];omega
 refine zl func109 rfl ?_;simp only [ntmps109,R8,Nat.reduceAdd,Nat.reduceSub];go_wp2;go_step3;go_wp2;go_step3;obtain⟨Wa,hWa⟩:∃Wa,Wa=(w.alloc (.cells #[.pointer (some ⟨B,0,none⟩)] 43)).alloc (.cells #[.slice none 0 0] 42):=⟨_,rfl⟩;have hba:Below w.heap.size w Wa:=by rw [hWa];exact pbx
 have kNa:Blk Wa w.heap.size #[.pointer (some ⟨B,0,none⟩)] 43:=by rw [hWa];exact bkx
 have kSa:Blk Wa (w.heap.size+1) #[.slice none 0 0] 42:=by rw [hWa];exact bkx
 have hza:Wa.heap.size=w.heap.size+2:=by rw [hWa];simp
 have hBa:=hB.call hba;go_wp2_with fail
 rw [← hWa];clear hWa cB lB;refine zd [O 0,O 1,O 2,O 3,O 4,O 5,O 6,O 7,E 8] none (λw'=>Blk w' B #[.pointer (some ⟨px,0,none⟩),.int .i64 n.id,.int .i64 n.version,.slice none 0 0,.pointer (some ⟨sb,0,none⟩),.pointer (some ⟨lb,0,none⟩),.pointer (some ⟨pb,0,none⟩),av,.int .i64 (n.offered:Nat),.int .i64 (n.applied:Nat),.int .i64 n.wanted,.bool n.down] 98/\Blk w' w.heap.size #[.pointer (some ⟨B,0,none⟩)] 43/\True) (by kernel_rfl) (by kernel_rfl) ⟨hBa.drew,kNa.drew,trivial⟩ ?_
 (repeat (refine za (v:=?_) rfl rfl (λw' h=>?_) (λK k=>?_);rotate_left;obtain⟨f1,f2,f3,_⟩:=h;(try have e1:=f1.cell);(try have e2:=f2.cell);(try have e3:=f3.cell);go_simp;(try with_reducible rfl);go_simp;refine k _ ?_;clear k K))
 refine zc rfl (λK hK=>?_);go_wp2_with fail
 refine(V9 B _ _).mono ?_;rintro r w1⟨rfl,rfl⟩;obtain⟨W0,hW0⟩:∃W0,W0=((Wa.alloc (.cells #[.pointer (some ⟨B,0,none⟩)] 300)).alloc (.cells #[.int .i64 ((n.applied:Int)+1)] 3)).drew:=⟨_,rfl⟩;have hb0:Below Wa.heap.size Wa W0:=by rw [hW0];exact pbx
 have kQ0:Blk W0 Wa.heap.size #[.pointer (some ⟨B,0,none⟩)] 300:=by rw [hW0];exact bkx
 have kI0:Blk W0 (Wa.heap.size+1) #[.int .i64 ((n.applied:Int)+1)] 3:=by rw [hW0];exact bkx
 have hz0:W0.heap.size=w.heap.size+4:=by rw [hW0];simp [hza]
 have hB0:=hBa.call hb0;have kN0:=kNa.call hb0;have kS0:=kSa.call hb0;go_wp2;rw [hza] at kQ0 kI0;rw [← hW0];refine hK.out _ _ (λ_=>⟨hB0,kN0,trivial⟩) ?_;clear hK K hW0;refine ze ?_;have hb00:Below w.heap.size w W0:=hba.trans (hb0.mono (by omega));have hI0:=(zx.loc B px sb lb pb av n t).cut hI hb00;clear hB hBa kNa kSa hI hB0 hb0 hba;replace hwa:=hid hwa;go_wp2_with fail
 refine yT (gf:=188) (lb:=#[.pointer (some ⟨w.heap.size+2+1,0,none⟩),.pointer (some ⟨w.heap.size+2,0,none⟩)]) rfl (enters_of func188 (by kernel_rfl) rfl)
  (YT (w.heap.size+2+1) (w.heap.size+2) B n.pax (t++ [0]) (n.applied+1) (by omega) hkn) (λ_=>rfl)
  (λk X W=>∃m ms v ow',y8 B t ow w W0 m ow' X W/\zjD B t ow w W0 (w.heap.size+1) ms v ow' X W/\Va n k m ms/\Blk W w.heap.size #[.pointer (some ⟨B,0,none⟩)] 43/\Blk W (w.heap.size+2) #[.pointer (some ⟨B,0,none⟩)] 300/\Blk W (w.heap.size+2+1) #[.int .i64 ((n.applied:Int)+1)] 3)
  (λ_ _ _=>False)
  (λk X X' W W' h hm hx=>by
   obtain⟨m,ms,v,ow',h1,h2,h3,h4,h5,h6⟩:=h
   exact⟨m,ms,v,_,h1.stab ht (by omega) hm hx,h2.stab h1 (by omega) hm hx,h3,h4.kept (h1.blk hm (by omega)),h5.kept (h1.blk hm (by omega)),h6.kept (h1.blk hm (by omega))⟩)
  (λ_ _ X X' W W' h hm hx=>h)
  (λk X W h=>by
   obtain⟨m,ms,v,ow',h1,h2,h3,h4,h5,h6⟩:=h;obtain⟨px',sb',lb',pb',av',hn⟩:=h1.node;refine⟨by rw [show((n.applied+1:Nat):Int)=(n.applied:Int)+1 by omega];exact h6,h5,px',ow',?_⟩
   exact⟨hn.blk.cell 0,by rw [← h3.pax];exact hn.pax⟩)
  ⟨n,[],.slice none 0 0,ow.cut w,⟨⟨_,_,_,_,_,hI0⟩,zq.wrap hb00 (zq.refl _ _ _),N0 _,λk h1 _=>Own.cut_new h1,λk h=>h.elim⟩,⟨kS0,z7 _ _ _,by simp [Value.ownBlock]⟩,⟨rfl,rfl,rfl,rfl,hb,by simp,10001,rfl,by simp⟩,kN0,kQ0,kI0⟩
  (λx=>[(4,.string (bs x))]) ?assign ?body ?done ?stop
 case assign=>
  intro l' x W K hK;rw [zZ] at hK⊢
  gi_wp2
  exact hK
 case stop=>rintro D c X W hD hXD h;exact h.elim
 case body=>
  rintro l' k x X W⟨m,ms,v,ow',h1,h2,h3,h4,h5,h6⟩ hnx hXl _;rw [zZ];have hk4:=hkn _ _ hnx;have hkm:=h3.app;obtain⟨px1,sb1,lb1,pb1,av1,hI1⟩:=h1.node;have hB1:=hI1.blk;have hwm:IntKind.i64.wrap ((m.applied:Int)+1)=(m.applied:Int)+1:=by rw [N8];omega
  have hbm:m.bad=[]:=h3.bad.trans hbad;unfold zz at hB1;have hM1:Mod (λk=>k=B) W (W.setCell ⟨B,9,none⟩ (.int .i64 ((m.applied:Int)+1))):=(Mod.refl (λk=>k=B) W).thenSet (p:=⟨B,9,none⟩) rfl _;obtain⟨hs1,hI2⟩:=hI1.setOwn {m with applied:=m.applied+1} hM1 (hB1.set (o:=9) (.int .i64 ((m.applied:Int)+1))) rfl rfl rfl rfl rfl rfl;have hO1:=h1.step hs1 ⟨_,_,_,_,_,hI2⟩;have hA1:=h2.step ht h1 (by omega) (by omega) hs1;have kN1:=h4.kept (h1.own ht hs1 (N0 _) (by omega));have kQ1:=h5.kept (h1.own ht hs1 (by omega) (by omega));have kI1:=h6.kept (h1.own ht hs1 (by omega) (by omega));have hsv1:=h1.saves ht hs1;have eN:=h4.cell;have lN:=h4.lt;have cB1:=hB1.cell;have fB1:=hB1.frozen;have lB1:=hB1.lt;have hdec:=λW=>zfi x W
  have hf0:=λhd=>h3.bad1 hnx (by omega) hd
  have hf1:=λhd=>h3.ok1 hnx (by omega) hd
  obtain⟨⟨⟨ek,ee,ev,em⟩,er⟩,hde⟩:∃q,jo x=q:=⟨_,rfl⟩;rw [hde] at hdec hf0 hf1;unfold Zv qV at hdec;simp only at hdec hf0 hf1;replace hdec:=hid hdec;replace hde:=hid hde;replace hf0:=hid hf0;replace hf1:=hid hf1;replace hnx:=hid hnx;obtain⟨W1,hW1⟩:∃W1,W1=W.setCell ⟨B,9,none⟩ (.int .i64 ((m.applied:Int)+1)):=⟨_,rfl⟩
  gi_wp2_with fail
  rw [← hW1] at hs1 hI2 hO1 hA1 kN1 kQ1 kI1 hsv1⊢;clear hW1 hM1 h1 h2 h4 h5 h6 eN lN cB1 fB1 lB1 hB1 hI1;refine(inRound _ _ (hdec.out _)).mono ?_;rintro r w2⟨mv,rfl,hb2,hrow2,hnew2⟩;obtain⟨ma,mn,mc,rfl⟩:=hrow2.shape;have hb3:Below W1.heap.size W1 (w2.alloc (.cells #[.int .i64 ek,.int .u32 ee,.int .i64 ev,.slice ma mn mc] 241)):=pbx;have hst3:=zq.of_below t ow' hb3;have hz1:=hO1.sz
  by_cases her:er=0
  ·subst her
   have hf1':=hf1.out rfl;have kE:Blk (w2.alloc (.cells #[.int .i64 ek,.int .u32 ee,.int .i64 ev,.slice ma mn mc] 241)) w2.heap.size #[.int .i64 ek,.int .u32 ee,.int .i64 ev,.slice ma mn mc] 241:=Blk.new (by simp);have hzE:=hb2.size
   gi_wp2_with fail
   obtain⟨W3,hW3⟩:∃W3,W3=(w2.alloc (.cells #[.int .i64 ek,.int .u32 ee,.int .i64 ev,.slice ma mn mc] 241)).drew:=⟨_,rfl⟩;have hb13:Below W1.heap.size W1 W3:=by rw [hW3];exact zo hb3
   have hb23:Below w2.heap.size w2 W3:=by rw [hW3];exact pbx
   have kE3:Blk W3 w2.heap.size #[.int .i64 ek,.int .u32 ee,.int .i64 ev,.slice ma mn mc] 241:=by rw [hW3];exact kE.drew
   have hS3:zq t ow' W1 ow' W3:=zq.of_below t ow' hb13;have kN3:=kN1.call hb13;have kS3:=hA1.kS.call hb13;refine jJ [O 0,O 1,O 2,E 3,E 4,E 5] (some 5) (λw'=>Blk w' (w.heap.size+1) #[v] 42/\Blk w' w.heap.size #[.pointer (some ⟨B,0,none⟩)] 43/\Blk w' w2.heap.size #[.int .i64 ek,.int .u32 ee,.int .i64 ev,.slice ma mn mc] 241/\True) (by kernel_rfl) (by kernel_rfl) (by rw [← hW3];exact⟨kS3,kN3,kE3,trivial⟩) ?_;rw [← hW3];clear hW3 kE hb3 hst3;have hO3:=hO1.step hS3 ((jC.loc B _ t).below hO1.node hb13);have hA3:=hA1.step ht hO1 (by omega) (by omega) hS3;have hI3:=(zx.loc B px1 sb1 lb1 pb1 av1 _ t).cut hI2 hb13;have her3:=he.step ht hO3.st hge;have hel:=he.lt;have hge3:(ow'.cut W1) 2=[]:=by rw [Own.cut_old (by have:=hO1.st.size;omega),hO1.st.agree _ hel];exact hge
   have hent:=zfp a B {m with applied:=m.applied+1} t ht (ow'.cut W1) ⟨ek,ee,ev,em⟩ (.slice ma mn mc) W3 hI3 her3 hge3 (Src.below hrow2.src hb23) (λb l c hv=>Own.cut_new (by cases hv;exact hnew2 _ rfl)) (by have:=zfs x;rw [hde.out] at this;exact Nat.le_trans this (by omega)) h3.few (by omega) (by show m.acc.length<=_;rw [h3.acc];exact hacc);have hcount:=hf1'.few2;obtain⟨⟨m4,ms4⟩,hen⟩:∃q,vJ {m with applied:=m.applied+1} ⟨ek,ee,ev,em⟩=q:=⟨_,rfl⟩;rw [hen] at hent hf1' hcount;unfold xV qV at hent;simp only at hent hf1' hcount;rw [N1] at hcount;replace hent:=hid hent;replace hen:=hid hen;replace hf1':=hid hf1'
   (repeat (refine za (v:=?_) rfl rfl (λw' h=>?_) (λK k=>?_);rotate_left;obtain⟨f1,f2,f3,_⟩:=h;have e1:=f1.cell;have e2:=f2.cell;have e3:=f3.cell;go_simp;(try with_reducible rfl);go_simp;refine k _ ?_;clear k K))
   refine zc rfl (λK hK=>?_);go_wp2_with fail
   refine hent.out.mono ?_;rintro r w4⟨v4,ow4,rfl,hs4,hN4,hrow4,hnew4⟩;have hsA:zq t ow' W1 ow4 w4:=zq.wrap hb13 hs4;have hO4:=hO1.step hsA hN4;have hA4:=hA1.step ht hO1 (by omega) (by omega) hsA;have kN4:=kN1.kept (hO1.own ht hsA (N0 _) (by omega));have kQ4:=kQ1.kept (hO1.own ht hsA (by omega) (by omega));have kI4:=kI1.kept (hO1.own ht hsA (by omega) (by omega));have kE4:=kE3.kept (hs4.free ht hzE kE3.lt).1;have hsv4:=hO1.saves ht hsA;go_wp2;refine hK.out _ _ (λ_=>⟨hA4.kS,kN4,kE4,trivial⟩) ?_;clear hK K;obtain⟨v6,w6,hrun,hrow6,hgr,hown⟩:=zT zcc hA4.row hrow4.src (jq ms4) (by omega) 42;obtain⟨va,vn,vc,rfl⟩:=hrow6.shape;have hne4:∀g,v.ownBlock=some g->g≠w.heap.size+1/\g≠w.heap.size/\g≠w.heap.size+2/\g≠w.heap.size+2+1:=λg hg=>⟨hA4.row.ne_blk hA4.kS (by decide) hg,hA4.row.ne_blk kN4 (by decide) hg,hA4.row.ne_blk kQ4 (by decide) hg,hA4.row.ne_blk kI4 (by decide) hg⟩
   have kS6:=hA4.kS.kept (w':=w6) (hgr.block _ hA4.kS.lt (λe=>(hne4 _ e.symm).1 rfl));have kN6:=kN4.kept (w':=w6) (hgr.block _ kN4.lt (λe=>(hne4 _ e.symm).2.1 rfl));have kQ6:=kQ4.kept (w':=w6) (hgr.block _ kQ4.lt (λe=>(hne4 _ e.symm).2.2.1 rfl));have kI6:=kI4.kept (w':=w6) (hgr.block _ kI4.lt (λe=>(hne4 _ e.symm).2.2.2 rfl));have kE6:=kE4.kept (w':=w6) (hgr.block _ kE4.lt (λe=>hA4.row.ne_blk kE4 (by decide) e.symm rfl));have hO6:=hO4.grown ht hgr hA4.new;have hsv6:jB X w4 w6:=⟨hgr.size,λk hX hk=>hgr.block k hk (λe=>(hA4.new k e.symm).2.2 hX)⟩
   have hnewv:∀g,(Value.slice va vn vc).ownBlock=some g->w.heap.size<=g/\(ow4.cut w4) g=[] /\¬X g/\g≠w.heap.size+1:=λg hg=>by
    rw [hg] at hown;have hz4:=hO4.sz
    rcases hown with h|h
    ·exact⟨(hA4.new g h.symm).1,by rw [Own.cut_old (hA4.row.lt h.symm)];exact(hA4.new g h.symm).2.1,(hA4.new g h.symm).2.2,(hne4 g h.symm).1⟩
    ·have hge4:g=w4.heap.size:=by simpa using h
     subst hge4;exact⟨by omega,Own.cut_new (N0 _),λhX=>by have:=(hO4.xs _ hX).2.1;omega,by omega⟩
   have hO7:=hO6.set ht (p:=⟨w.heap.size+1,0,none⟩) (by show w.heap.size<=w.heap.size+1;omega) (hO6.free (w.heap.size+1) (by omega) (by omega)) (.slice va vn vc)
   have hrow7:Row (w6.setCell ⟨w.heap.size+1,0,none⟩ (.slice va vn vc)) 78 3 (.slice va vn vc) (ms++ms4).length ((ms++ms4).flatMap zh):=by
    rw [N1,U5];exact Row.kept (w:=w6) hrow6 (λg hg=>N4 _ _ _ _ (show g≠w.heap.size+1 from(hnewv g hg).2.2.2))
   have hsv7:jB X w6 (w6.setCell ⟨w.heap.size+1,0,none⟩ (.slice va vn vc)):=⟨by simp,λk hX hk=>N4 _ _ _ _ (show k≠w.heap.size+1 from λe=>by have:=(hO4.xs k hX).1;omega)⟩
   have hfin:(∃m ms v ow',y8 B t ow w W0 m ow' X (w6.setCell ⟨w.heap.size+1,0,none⟩ (.slice va vn vc))/\zjD B t ow w W0 (w.heap.size+1) ms v ow' X (w6.setCell ⟨w.heap.size+1,0,none⟩ (.slice va vn vc))/\Va n (k+1) m ms/\Blk (w6.setCell ⟨w.heap.size+1,0,none⟩ (.slice va vn vc)) w.heap.size #[.pointer (some ⟨B,0,none⟩)] 43/\Blk (w6.setCell ⟨w.heap.size+1,0,none⟩ (.slice va vn vc)) (w.heap.size+2) #[.pointer (some ⟨B,0,none⟩)] 300/\Blk (w6.setCell ⟨w.heap.size+1,0,none⟩ (.slice va vn vc)) (w.heap.size+2+1) #[.int .i64 ((n.applied:Int)+1)] 3)/\jB X W (w6.setCell ⟨w.heap.size+1,0,none⟩ (.slice va vn vc)):=
    ⟨⟨m4,ms++ms4,.slice va vn vc,_,hO7,⟨kS6.set (o:=0) _,hrow7,λg hg=>⟨(hnewv g hg).1,(hnewv g hg).2.1,(hnewv g hg).2.2.1⟩⟩,hf1'.out,kN6.other (p:=⟨w.heap.size+1,0,none⟩) (by show w.heap.size≠w.heap.size+1;omega) _,kQ6.other (p:=⟨w.heap.size+1,0,none⟩) (by show w.heap.size+2≠w.heap.size+1;omega) _,kI6.other (p:=⟨w.heap.size+1,0,none⟩) (by show w.heap.size+2+1≠w.heap.size+1;omega) _⟩,((hsv1.trans hsv4).trans hsv6).trans hsv7⟩
   have cS6:=kS6.cell;have fS6:=kS6.frozen;have lS6:=kS6.lt;have kSx:=kS6;replace hfin:=hid hfin;replace hrun:=hid hrun;replace hown:=hid hown;replace hne4:=hid hne4;replace hnewv:=hid hnewv;refine zc rfl (λK hK=>?_);refine zw rfl _ _ _ rfl rfl rfl hrun.out ?_;unfold wpList;refine hK.out _ _ (λ_=>⟨kS6,kN6,kE6,trivial⟩) ?_;clear hK K;refine zc rfl (λK hK=>?_);go_wp2;refine hK.out _ _ (λhh=>absurd rfl hh) ?_;clear hK K;refine ze ?_
   gi_wp2
   exact hfin.out
  ·have t1:(er !=0)=true:=by simpa using her
   have hf0':=hf0.out her;have hO3:=hO1.step hst3 ((jC.loc B _ t).below hO1.node hb3);have hA3:=hA1.step ht hO1 (by omega) (by omega) hst3;have hsv3:=hO1.saves ht hst3;have kN3:=kN1.kept (hO1.own ht hst3 (N0 _) (by omega));have kQ3:=kQ1.kept (hO1.own ht hst3 (by omega) (by omega));have kI3:=kI1.kept (hO1.own ht hst3 (by omega) (by omega));replace her:=hid her
   gi_wp2
   exact⟨⟨_,ms,v,ow',hO3,hA3,hf0',kN3,kQ3,kI3⟩,hsv1.trans hsv3⟩
 case done=>
  rintro D k X W hD hXD hfin⟨m,ms,v,ow',h1,h2,h3,h4,h5,h6⟩ hdef;have hfn:=h3.fin hfin;replace hfn:=hid hfn;have hxD:=h1.xs D hXD;have hrow:=h2.row;have hnew:=h2.new;have hDne:∀g,v.ownBlock=some g->g≠D:=λg hg e=>(hnew g hg).2.2 (e ▸ hXD)
  have kS:=h2.kS;have eS:=kS.cell;replace hnew:=hid hnew;replace hDne:=hid hDne;go_wp2;rw [Exit.noGoto_ret];refine z8 (D:=D) (v:=v) hdef (by simp [results,Tryz.results109,go_sem]) ?_;rw [hfn.out];exact⟨v,ow',rfl,h1.st.putNew D _ (by omega),(jC.loc B m t).put ht h1.node hxD.2.2 _,hrow.kept (λg hg=>U1 (hDne.out g hg)),λg hg=>⟨(hnew.out g hg).1,(hnew.out g hg).2.1⟩⟩
theorem zft {p:xn}{i:Int}{x:List UInt8}(h:(zS p i x).2.2≠0):(zS p i x).1=p:=by
 unfold zS at*
 split at h
 ·rename_i h0;rw [if_pos h0]
 ·rename_i h0;rw [if_neg h0]
  split at h
  ·rename_i y hy
   split at h
   ·rename_i h2;simp only [if_pos h2]
   ·simp at h
  ·simp at h
theorem zfu(p:xn)(i:Int)(x:List UInt8):(zS p i x).2.1.length<=5000:=by
 unfold zS
 split
 ·simp
 ·rename_i h
  split
  ·split<;>simp
  ·simp only [xr,N1,List.length_cons,qG]
   simp only [not_or] at h;simp
   omega
def zi6(B:Nat)(t:List Nat)(ow:Own)(w:World)(R:zp×List zy×Int)(e:Ending)(w':World):Prop:=
 ∃v ow',e=.returned (.tuple #[v,.int .i64 R.2.2])/\zq t ow w ow' w'/\jC B R.1 t ow' w'/\Row w' 78 3 v R.2.1.length (R.2.1.flatMap zh)/\(∀g,v.ownBlock=some g->w.heap.size<=g/\ow' g=[])
theorem zfv {px sb lb pb:Nat}{av:Value}(a:Addr)(B:Nat)(n:zp)(t:List Nat)(ht:t≠ [])(ow:Own)(i:Int)(x:List UInt8)(hx:x.length<=1000000)(w:World)(hN:zx B px sb lb pb av n t ow w)(hcap:vz n.store)
 (he:jE w a) (hge:ow 2=[]) (hb:vQ n.loc n.applied) (hap0:n.applied<=10000) (hacc:n.acc.length<=200000) (hkn:yp n.pax.known):
 Calls prog 154 #[.pointer (some ⟨B,0,none⟩),.int .i64 i,.string (bs x)] w (zi6 B t ow w (ja n i x)):=by
 have hB:=hN.blk;have hr:=vX w hB;have hlearn:=λW hW=>V5 px n.pax (t++ [0]) ow i x hx W hW
 have hln:ja n i x=if n.down then(n,[],170)
  else if(zS n.pax i x).2.2≠0 then(n,[],(zS n.pax i x).2.2)
  else if(zS n.pax i x).2.1=[] then((jn 10001 {n with pax:=(zS n.pax i x).1}).1,(jn 10001 {n with pax:=(zS n.pax i x).1}).2,0)
  else if(yf {n with pax:=(zS n.pax i x).1} true (zS n.pax i x).2.1).2≠0 then((yf {n with pax:=(zS n.pax i x).1} true (zS n.pax i x).2.1).1,[],(yf {n with pax:=(zS n.pax i x).1} true (zS n.pax i x).2.1).2)
  else((jn 10001 (yf {n with pax:=(zS n.pax i x).1} true (zS n.pax i x).2.1).1).1,(jn 10001 (yf {n with pax:=(zS n.pax i x).1} true (zS n.pax i x).2.1).1).2,0):=rfl
 have hlen:=zfu n.pax i x;have herr:= @zft n.pax i x;have hkn2:=(ZZ (p:=n.pax) i x).2.1 hkn;have hlt:=he.lt;have hbad:=hN.bad;unfold zz at hB;unfold Jw at hr;have e0:=hB.cell;obtain⟨⟨p',rc,er⟩,hcp⟩:∃q,zS n.pax i x=q:=⟨_,rfl⟩;rw [hcp] at hlearn hln hlen herr hkn2;unfold Y9 at hlearn;simp only at hlearn hln hlen herr hkn2;replace hcp:=hid hcp;replace hlearn:=hid hlearn;replace herr:=hid herr;replace he:=hid he;replace hlt:=hid hlt;replace hkn2:=hid hkn2
 by_cases hd:n.down=true
 ·rw [if_pos hd] at hln
  rw [hd] at hr;rw [hln];replace hln:=hid hln;replace hr:=hid hr;replace hd:=hid hd
  go_enter func154,ntmps154
  go_wp2_with fail
  refine hr.out.mono ?_;rintro e w1⟨rfl,hw1⟩;obtain rfl:=hw1.symm;go_wp2;go_ret2
  exact⟨_,ow,rfl,zq.refl _ _ _,⟨_,_,_,_,_,hN⟩,z7 _ _ _,by simp [Value.ownBlock]⟩
 ·have hd':n.down=false:=by simpa using hd
  rw [if_neg hd] at hln;rw [hd'] at hr;replace hr:=hid hr;replace hd:=hid hd;replace hd':=hid hd'
  by_cases her:er=0
  ·subst her
   rw [if_neg (by simp)] at hln
   by_cases hrc:rc=[]
   ·rw [if_pos hrc] at hln
    rw [hln];have t1:(bs rc).toList.isEmpty=true:=by rw [yC,hrc];rfl
    have hap:=λow1 W h1 he1 hg1=>Yw a B {n with pax:=p'} t ht ow1 W h1 he1 hg1 hb hap0 hacc hkn2.out hbad
    unfold xV at hap;replace hap:=hid hap;replace hln:=hid hln;replace hrc:=hid hrc
    go_enter func154,ntmps154
    go_wp2_with fail
    refine hr.out.mono ?_;rintro e w1⟨rfl,hw1⟩;obtain rfl:=hw1.symm;go_wp2_with fail
    refine(hlearn.out _ hN.pax).mono ?_;rintro e w1⟨rfl,ow1,hs1,h1⟩;have hN1:=hN.setPax _ hs1 h1;have hsA:=hs1.mono (Sub.child t 0);have hsB:=hsA;go_wp2_with fail
    refine(hap.out ow1 w1 ⟨_,_,_,_,_,hN1⟩ (he.out.step ht hsB hge) (by rw [hsB.agree _ hlt.out];exact hge)).mono ?_;rintro e w5⟨v,ow5,rfl,hs5,hN5,hrow5,hnew5⟩;have hsz:=hsB.size;replace hnew5:=hid hnew5;replace hrow5:=hid hrow5;go_wp2;go_ret2
    exact⟨v,ow5,rfl,hsB.trans hs5,hN5,hrow5.out,λg hg=>⟨Nat.le_trans hsz (hnew5.out g hg).1,(hnew5.out g hg).2⟩⟩
   ·rw [if_neg hrc] at hln
    have t1:(bs rc).toList.isEmpty=false:=by rw [yC];cases rc with|nil=>exact absurd rfl hrc|cons _ _=>rfl
    have hkp:=λow1 w1 h1 W h2 kb kc g h3 h4 k0 k1 kg=>JK B {n with pax:=p'} t ht ow1 w1 h1 hcap true [rc] (by simp) (by simp) (by simp;omega) W h2 kb kc g h3 h4 k0 k1 kg
    rw [show [rc].flatten=rc by simp] at hkp;unfold JJ at hkp;have hap:=λow1 W h1 he1 hg1=>Yw a B (yf {n with pax:=p'} true rc).1 t ht ow1 W h1 he1 hg1 hb hap0 hacc hkn2.out hbad
    unfold xV at hap;obtain⟨⟨m,ek⟩,hm⟩:∃R,yf {n with pax:=p'} true rc=R:=⟨_,rfl⟩;rw [hm] at hkp hln hap;simp only at hkp hln hap;replace hkp:=hid hkp;replace hap:=hid hap;replace hm:=hid hm;replace hrc:=hid hrc
    by_cases hek:ek=0
    ·subst hek
     rw [if_neg (by simp)] at hln;rw [hln];replace hln:=hid hln
     go_enter func154,ntmps154
     go_wp2_with fail
     refine hr.out.mono ?_;rintro e w1⟨rfl,hw1⟩;obtain rfl:=hw1.symm;go_wp2_with fail
     refine(hlearn.out _ hN.pax).mono ?_;rintro e w1⟨rfl,ow1,hs1,h1⟩;have hN1:=hN.setPax _ hs1 h1;have hsA:=hs1.mono (Sub.child t 0);go_wp2_with fail
     refine(vY _ _ _).mono ?_;rintro e w2⟨rfl,rfl⟩;go_wp2_with fail
     refine(hkp.out ow1 w1 ⟨_,_,_,_,_,hN1⟩ (((w1.alloc (.cells #[.pointer (some ⟨B,0,none⟩)] 43)).alloc (.cells #[.bool true] 4)).alloc (.cells #[.string (bs rc)] 9)) (pbx) w1.heap.size (w1.heap.size+1) _ (N0 _) (by omega) (bkx) (bkx) (Blk.new (by simp))).mono ?_;rintro e w3⟨rfl,ow3,hs3,hN3, -⟩;have hsB:=hsA.trans hs3;go_wp2_with fail
     refine(hap.out ow3 w3 hN3 (he.out.step ht hsB hge) (by rw [hsB.agree _ hlt.out];exact hge)).mono ?_;rintro e w5⟨v,ow5,rfl,hs5,hN5,hrow5,hnew5⟩;have hsz:=hsB.size;replace hnew5:=hid hnew5;replace hrow5:=hid hrow5;go_wp2;go_ret2
     exact⟨v,ow5,rfl,hsB.trans hs5,hN5,hrow5.out,λg hg=>⟨Nat.le_trans hsz (hnew5.out g hg).1,(hnew5.out g hg).2⟩⟩
    ·rw [if_pos hek] at hln
     rw [hln];have t2:(ek !=0)=true:=by simpa using hek
     replace hln:=hid hln;replace hek:=hid hek
     go_enter func154,ntmps154
     go_wp2_with fail
     refine hr.out.mono ?_;rintro e w1⟨rfl,hw1⟩;obtain rfl:=hw1.symm;go_wp2_with fail
     refine(hlearn.out _ hN.pax).mono ?_;rintro e w1⟨rfl,ow1,hs1,h1⟩;have hN1:=hN.setPax _ hs1 h1;have hsA:=hs1.mono (Sub.child t 0);go_wp2_with fail
     refine(vY _ _ _).mono ?_;rintro e w2⟨rfl,rfl⟩;go_wp2_with fail
     refine(hkp.out ow1 w1 ⟨_,_,_,_,_,hN1⟩ (((w1.alloc (.cells #[.pointer (some ⟨B,0,none⟩)] 43)).alloc (.cells #[.bool true] 4)).alloc (.cells #[.string (bs rc)] 9)) (pbx) w1.heap.size (w1.heap.size+1) _ (N0 _) (by omega) (bkx) (bkx) (Blk.new (by simp))).mono ?_;rintro e w3⟨rfl,ow3,hs3,hN3, -⟩;go_wp2;go_ret2
     exact⟨_,ow3,rfl,hsA.trans hs3,hN3,z7 _ _ _,by simp [Value.ownBlock]⟩
  ·rw [if_pos her] at hln
   rw [hln];have t1:(er !=0)=true:=by simpa using her
   have hp':=herr.out her;subst hp';replace hln:=hid hln;replace her:=hid her
   go_enter func154,ntmps154
   go_wp2_with fail
   refine hr.out.mono ?_;rintro e w1⟨rfl,hw1⟩;obtain rfl:=hw1.symm;go_wp2_with fail
   refine(hlearn.out _ hN.pax).mono ?_;rintro e w1⟨rfl,ow1,hs1,h1⟩;have hN1:=hN.setPax _ hs1 h1;have hsA:=hs1.mono (Sub.child t 0);go_wp2;go_ret2
   exact⟨_,ow1,rfl,hsA,⟨_,_,_,_,_,hN1⟩,z7 _ _ _,by simp [Value.ownBlock]⟩
theorem zbw {px sb lb pb:Nat}{av:Value}(B:Nat)(n:zp)(t:List Nat)(ht:t≠ [])(ow:Own)(w:World)(hN:zx B px sb lb pb av n t ow w)(hap0:n.applied<=10000)(hkn:yp n.pax.known):
 Calls prog 97 #[.pointer (some ⟨B,0,none⟩)] w λe w'=>e=.returned (.int .i64 (yy n:Nat))/\Below w.heap.size w w':=by
 have hB:=hN.blk;have hn:=Zw w hB;unfold zz at hB;have e0:=hB.cell;have hwa:IntKind.i64.wrap ((n.applied:Int)+1)=(n.applied:Int)+1:=by rw [N8];omega
 replace hn:=hid hn;refine zl func97 rfl ?_;simp only [ntmps97,R8,Nat.reduceAdd,Nat.reduceSub];go_wp2_with fail
 refine hn.out.mono ?_;rintro e w1⟨rfl,hw1⟩;obtain rfl:=hw1.symm;have hNa:=(zx.loc B px sb lb pb av n t).cut hN ((N2 w.heap.size w).alloc (N0 _) (.cells #[.int .i64 ((n.applied:Int)+1)] 3));have hBa:=hB.alloc (.cells #[.int .i64 ((n.applied:Int)+1)] 3);have kNa:Blk (w.alloc (.cells #[.int .i64 ((n.applied:Int)+1)] 3)) w.heap.size #[.int .i64 ((n.applied:Int)+1)] 3:=Blk.new (by simp);have hfb:=(N2 w.heap.size w).alloc (N0 _) (.cells #[.int .i64 ((n.applied:Int)+1)] 3);go_wp2_with fail
 obtain⟨Wa,hWa⟩:∃Wa,Wa=w.alloc (.cells #[.int .i64 ((n.applied:Int)+1)] 3):=⟨_,rfl⟩;have hza:Wa.heap.size=w.heap.size+1:=by rw [hWa];simp
 rw [← hWa] at hNa hBa kNa hfb⊢;clear hWa e0;refine zd [O 0,O 1,O 2,O 3,E 4] none (λw'=>Blk w' w.heap.size #[.int .i64 ((n.applied:Int)+1)] 3/\True) (by kernel_rfl) (by kernel_rfl) ⟨kNa.drew,trivial⟩ ?_
 (repeat (refine za (v:=?_) rfl rfl (λw' h=>?_) (λK k=>?_);rotate_left;obtain⟨f1,_⟩:=h;have e1:=f1.cell;go_simp;(try with_reducible rfl);go_simp;refine k _ ?_;clear k K))
 refine zc rfl (λK hK=>?_);go_wp2_with fail
 refine(V9 B _ _).mono ?_;rintro r w1⟨rfl,rfl⟩;obtain⟨W0,hW0⟩:∃W0,W0=((Wa.alloc (.cells #[.pointer (some ⟨B,0,none⟩)] 300)).alloc (.cells #[.int .i64 ((n.applied:Int)+1)] 3)).drew:=⟨_,rfl⟩;have hb0:Below Wa.heap.size Wa W0:=by rw [hW0];exact pbx
 have kQ0:Blk W0 Wa.heap.size #[.pointer (some ⟨B,0,none⟩)] 300:=by rw [hW0];exact bkx
 have kI0:Blk W0 (Wa.heap.size+1) #[.int .i64 ((n.applied:Int)+1)] 3:=by rw [hW0];exact bkx
 have hz0:W0.heap.size=w.heap.size+3:=by rw [hW0];simp [hza]
 have kN0:=kNa.call hb0;rw [hza] at kQ0 kI0;go_wp2;rw [← hW0];refine hK.out _ _ (λ_=>⟨kN0,trivial⟩) ?_;clear hK K hW0;refine ze ?_;have hI0:=(zx.loc B px sb lb pb av n t).below hNa hb0;have hnb:(ow.cut w) w.heap.size=[]:=Own.cut_new (N0 _);have hb00:Below w.heap.size w W0:=hfb.trans (hb0.mono (by omega));have hnx:yy n=ZQ n.pax.known 10001 (n.applied+1):=rfl;clear hB hBa kNa hN hNa hb0;replace hwa:=hid hwa;replace hnx:=hid hnx;go_wp2_with fail
 refine yT (gf:=188) (lb:=#[.pointer (some ⟨w.heap.size+1+1,0,none⟩),.pointer (some ⟨w.heap.size+1,0,none⟩)]) rfl (enters_of func188 (by kernel_rfl) rfl)
  (YT (w.heap.size+1+1) (w.heap.size+1) B n.pax (t++ [0]) (n.applied+1) (by omega) hkn) (λ_=>rfl)
  (λk X W=>Fr (λj=>j=w.heap.size) W0 X W/\Blk W w.heap.size #[.int .i64 (k:Nat)] 3/\∃f,f+k=10001+(n.applied+1)/\yy n=ZQ n.pax.known f k)
  (λ_ _ _=>False)
  (λk X X' W W' h hm hx=>⟨h.1.step hm hx,h.2.1.kept (h.1.block hm (by omega)),h.2.2⟩)
  (λ_ _ X X' W W' h hm hx=>h)
  (λk X W h=>by
   refine⟨kI0.mod h.1.2 (by omega),kQ0.mod h.1.2 (by omega),?_⟩;have hn:=zx.loc B px sb lb pb av n t _ (ow.cut w) _ W hI0 h.1.2.size (λj hj hs=>⟨rfl,h.1.2.block j hj (λe=>by subst e;rw [hnb] at hs;exact zj ht hs)⟩)
   exact⟨px,_,hn.blk.cell 0,hn.pax⟩)
  ⟨Fr.refl _ _,kN0,10001,rfl,hnx.out⟩
  (λx=>[]) ?assign ?body ?done ?stop
 case assign=>
  intro l' x W K hK;rw [zZ] at hK⊢
  gi_wp2
  exact hK
 case stop=>rintro D c X W hD hXD h;exact h.elim
 case body=>
  rintro l' k x X W⟨hfr,kN,f,hf,hne⟩ hnx2 hXl _;rw [zZ];have hk4:=hkn _ _ hnx2;obtain⟨f',rfl⟩:∃f',f=f'+1:=⟨f - 1,by omega⟩;have hw:IntKind.i64.wrap ((k:Int)+1)=(k:Int)+1:=by rw [N8];omega
  have eN:=kN.cell;have fN:=kN.frozen;have lN:=kN.lt;have hne2:yy n=ZQ n.pax.known f' (k+1):=by rw [hne,ZQ,hnx2];rfl
  have hm:Mod (λj=>j=w.heap.size) W (W.setCell ⟨w.heap.size,0,none⟩ (.int .i64 ((k:Int)+1))):=(Mod.refl (λj=>j=w.heap.size) W).thenSet (p:=⟨w.heap.size,0,none⟩) rfl _;replace hne:=hid hne;replace hne2:=hid hne2;replace hnx2:=hid hnx2
  gi_wp2
  exact⟨⟨hfr.mod hm (λ_ _ e=>e),kN.set (o:=0) _,f',by omega,hne2.out⟩,jB.of_mod hm (λj hj hX e=>by subst e;have:=(hfr.1 _ hX).1;omega)⟩
 case done=>
  rintro D k X W hD hXD hfin⟨hfr,kN,f,hf,hne⟩ hdef
  have hne2:yy n=k:=by
   rw [hne]
   cases f with
   |zero=>rfl
   |succ f=>rw [ZQ,hfin];rfl
  have hbW:Below w.heap.size w W:=hb00.trans (hfr.below (by omega) (λj hj=>by omega));have eN:=kN.cell;replace hne:=hid hne;replace hne2:=hid hne2;replace hfin:=hid hfin;go_wp2;refine z8 (D:=D) (v:=.int .i64 (k:Nat)) hdef (by simp [results,Tryz.results97,go_sem]) ?_;rw [hne2.out];exact⟨rfl,zN hbW (by omega) _⟩
