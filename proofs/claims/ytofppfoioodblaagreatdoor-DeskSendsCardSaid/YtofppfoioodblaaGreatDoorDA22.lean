/- PARTS OF THE PROOF. -/
import Derived.Test.YtofppfoioodblaaGreatDoorDA21
set_option maxRecDepth 8000
set_option maxHeartbeats 4000000
open Go.Proofs.Tryz
namespace Go.Proofs.YtofppfoioodblaaGreatDoor
open Go Go.RowKit Go.Shelf Go.Extern.Stop Go.Stop Go.Extern
attribute [local go_sem] Oper.semAt_some zB zo
structure vj(B:Nat)(t:List Nat)(ow:Own)(w W0:World)(m:zq)(ow':Own)(X:Nat->Prop)(W:World):Prop where
 node:jH B m t ow' W
 st:zp t ow w ow' W
 sz:W0.heap.size<=W.heap.size
 free:∀k,w.heap.size<=k->k<W0.heap.size->ow' k=[]
 xs:∀k,X k->W0.heap.size<=k/\k<W.heap.size/\ow' k=[]
theorem vj.stab {B:Nat}{t:List Nat}(ht:t≠ []){ow:Own}{w W0:World}(hw:w.heap.size<=W0.heap.size){m:zq}{ow':Own}{X X':Nat->Prop}{W W':World}(h:vj B t ow w W0 m ow' X W)(hm:Mod X W W')(hx:∀k,X' k->X k∨(W.heap.size<=k/\k<W'.heap.size)):
 vj B t ow w W0 m (ow'.cut W) X' W' where
 node:=jH.loc B m t _ _ _ _ h.node hm.size (λk hk hs=>⟨Own.cut_old hk,hm.block k hk (λhX=>by rw [(h.xs k hX).2.2] at hs;exact zj ht hs)⟩)
 st:=⟨h.st.mod.trans hm (λ_ _ e=>e) (λk hk e=>by have:=(h.xs k e).1;omega),λk hk=>(Own.cut_old (by have:=h.st.size;omega)).trans (h.st.agree k hk)⟩
 sz:=Nat.le_trans h.sz hm.size
 free:=λk h1 h2=>by rw [Own.cut_old (by have:=h.sz;omega)];exact h.free k h1 h2
 xs:=λk hk=>by
  have hs:=hm.size
  rcases hx k hk with h1|h1
  ·have h2:=h.xs k h1
   exact⟨h2.1,by omega,by rw [Own.cut_old h2.2.1];exact h2.2.2⟩
  exact⟨by have:=h.sz;omega,by omega,Own.cut_new h1.1⟩
theorem vj.blk {B:Nat}{t:List Nat}{ow:Own}{w W0:World}{m:zq}{ow':Own}{X:Nat->Prop}{W W':World}(h:vj B t ow w W0 m ow' X W)(hm:Mod X W W'){k:Nat}(hk:k<W0.heap.size):W'.heap[k]?=W.heap[k]?:=
 hm.block k (by have:=h.sz;omega) (λe=>by have:=(h.xs k e).1;omega)
theorem vj.step {B:Nat}{t:List Nat}{ow:Own}{w W0:World}{m m':zq}{ow1 ow2:Own}{X:Nat->Prop}{W W':World}(h:vj B t ow w W0 m ow1 X W)(hs:zp t ow1 W ow2 W')(hn:jH B m' t ow2 W'):vj B t ow w W0 m' ow2 X W' where
 node:=hn
 st:=h.st.trans hs
 sz:=Nat.le_trans h.sz hs.size
 free:=λk h1 h2=>by rw [hs.agree k (by have:=h.sz;omega)];exact h.free k h1 h2
 xs:=λk hk=>by
  have h2:=h.xs k hk;exact⟨h2.1,by have:=hs.size;omega,by rw [hs.agree k h2.2.1];exact h2.2.2⟩
theorem vj.saves {B:Nat}{t:List Nat}(ht:t≠ []){ow:Own}{w W0:World}{m:zq}{ow1 ow2:Own}{X:Nat->Prop}{W W':World}(h:vj B t ow w W0 m ow1 X W)(hs:zp t ow1 W ow2 W'):jm X W W':=
 ⟨hs.size,λk hX hk=>hs.block hk (by rw [(h.xs k hX).2.2];exact zj ht)⟩
theorem vj.set {B:Nat}{t:List Nat}{ow:Own}{w W0:World}{m:zq}{ow1:Own}{X:Nat->Prop}{W:World}(ht:t≠ [])(h:vj B t ow w W0 m ow1 X W){p:Addr}(hp:w.heap.size<=p.block)(hp2:ow1 p.block=[])(v:Value):vj B t ow w W0 m ow1 X (W.setCell p v) where
 node:=jH.loc B m t _ _ _ _ h.node (by simp) (λk hk hs=>⟨rfl,N4 _ _ _ _ (λe=>by subst e;rw [hp2] at hs;exact zj ht hs)⟩)
 st:=h.st.setNew p v hp
 sz:=by have:=h.sz;simpa using this
 free:=h.free
 xs:=λk hk=>by simpa using h.xs k hk
structure zk5(B:Nat)(t:List Nat)(ow:Own)(w W0:World)(kb:Nat)(ms:List zx)(v:Value)(ow':Own)(X:Nat->Prop)(W:World):Prop where
 kS:Blk W kb #[v] 42
 row:Row W 78 3 v ms.length (ms.flatMap zh)
 new:∀g,v.ownBlock=some g->w.heap.size<=g/\ow' g=[] /\¬X g
theorem zk5.stab {B:Nat}{t:List Nat}{ow:Own}{w W0:World}{kb:Nat}{m:zq}{ms:List zx}{v:Value}{ow':Own}{X X':Nat->Prop}{W W':World}(hN:vj B t ow w W0 m ow' X W)(h:zk5 B t ow w W0 kb ms v ow' X W)(hk:kb<W0.heap.size)(hm:Mod X W W')(hx:∀k,X' k->X k∨(W.heap.size<=k/\k<W'.heap.size)):
 zk5 B t ow w W0 kb ms v (ow'.cut W) X' W' where
 kS:=h.kS.kept (hN.blk hm hk)
 row:=h.row.mod hm (λg hg=>(h.new g hg).2.2)
 new:=λg hg=>⟨(h.new g hg).1,by rw [Own.cut_old (h.row.lt hg)];exact(h.new g hg).2.1,λhX=>by
  rcases hx g hX with h1|h1
  ·exact(h.new g hg).2.2 h1
  have:=h.row.lt hg;omega⟩
theorem vj.grown {B:Nat}{t:List Nat}(ht:t≠ []){ow:Own}{w W0:World}{m:zq}{ow1:Own}{X:Nat->Prop}{W W':World}{v:Value}(h:vj B t ow w W0 m ow1 X W)(hg:W.grownBy W' v.ownBlock)(hv:∀g,v.ownBlock=some g->w.heap.size<=g/\ow1 g=[] /\¬X g):vj B t ow w W0 m (ow1.cut W) X W' where
 node:=jH.loc B m t _ _ _ _ h.node hg.size (λk hk hs=>⟨Own.cut_old hk,hg.block k hk (λe=>by rw [(hv k e.symm).2.1] at hs;exact zj ht hs)⟩)
 st:=⟨h.st.mod.trans (Mod.grown (X:=λk=>v.ownBlock=some k) hg (λk h=>h)) (λ_ _ e=>e) (λk hk e=>by have:=(hv k e).1;omega),λk hk=>(Own.cut_old (by have:=h.st.size;omega)).trans (h.st.agree k hk)⟩
 sz:=Nat.le_trans h.sz hg.size
 free:=λk h1 h2=>by rw [Own.cut_old (by have:=h.sz;omega)];exact h.free k h1 h2
 xs:=λk hk=>by
  have h2:=h.xs k hk;exact⟨h2.1,by have:=hg.size;omega,by rw [Own.cut_old h2.2.1];exact h2.2.2⟩
theorem zgJ(L:zQ)(e:jz)(f:Bool):(j8 L e f).1.log=L.log++(j8 L e f).2.1:=by
 unfold j8
 split
 ·simp
 unfold yD
 split
 ·unfold qQ;simp [(qj L _ f).2]
 unfold qQ;simp [(qj L _ f).2,(qj L _ f).1]
theorem zgK(s:List UInt8):(ya s).1.length<=64:=by
 unfold ya
 split
 ·simp
 rename_i b r
 split
 ·simp
 rename_i hb
 split
 ·simp
 rename_i l hl
 rw [J0 _ _ _ hl];omega
theorem zgL(s:List UInt8):(jq s).1.msgs.length<=64:=by
 unfold jq
 split
 ·simp
 split
 ·simp
 split
 ·exact zgK _
 simp
structure V0(n:zq)(k:Nat)(m:zq)(ms:List zx):Prop where
 app:m.applied+1=k
 pax:m.pax=n.pax
 acc:m.acc=n.acc
 bad:m.bad=n.bad
 few:xf m.loc m.applied
 log:m.loc.log=n.loc.log++ms
 far:∃f,f+k=10001+(n.applied+1)/\jB 10001 n=((jB f m).1,ms++(jB f m).2)
theorem V0.bad1 {n m:zq}{k:Nat}{ms:List zx}(h:V0 n k m ms){x:List UInt8}(hx:zH (k:Int) n.pax.known=some x)(hk:k<=10000)(hd:(jq x).2≠0):V0 n (k+1) {m with applied:=m.applied+1} ms:=by
 obtain⟨f,hf,aa⟩:=h.far;obtain⟨f',rfl⟩:∃f',f=f'+1:=⟨f - 1,by omega⟩;refine⟨by show m.applied+1+1=_;rw [h.app],h.pax,h.acc,h.bad,h.few.mono (by simp),h.log,f',by omega,?_⟩;rw [aa,jB,h.pax,show(m.applied:Int)+1=(k:Int)by have:=h.app;omega,hx];simp only;rw [if_pos hd]
theorem V0.ok1 {n m:zq}{k:Nat}{ms:List zx}(h:V0 n k m ms){x:List UInt8}(hx:zH (k:Int) n.pax.known=some x)(hk:k<=10000)(hd:(jq x).2=0):
 V0 n (k+1) (vW {m with applied:=m.applied+1} (jq x).1).1 (ms++(vW {m with applied:=m.applied+1} (jq x).1).2):=by
 obtain⟨f,hf,ab⟩:=h.far;obtain⟨f',rfl⟩:∃f',f=f'+1:=⟨f - 1,by omega⟩;obtain⟨hs,hl,ha⟩:=Vd {m with applied:=m.applied+1} (jq x).1;have hq:(vW {m with applied:=m.applied+1} (jq x).1).2=(j8 m.loc (jq x).1 (m.bad.contains (qi {m with applied:=m.applied+1} (jq x).1))).2.1:=rfl;have aa:(vW {m with applied:=m.applied+1} (jq x).1).1.loc=(j8 m.loc (jq x).1 (m.bad.contains (qi {m with applied:=m.applied+1} (jq x).1))).1:=hl;refine⟨by rw [ha];show m.applied+1+1=_;rw [h.app],hs.pax.trans h.pax,hs.acc.trans h.acc,hs.bad.trans h.bad,?_,?_,f',by omega,?_⟩
 ·rw [ha,aa];exact za6 h.few _ _
 ·rw [aa,hq,zgJ,h.log,List.append_assoc]
 rw [ab,jB,h.pax,show(m.applied:Int)+1=(k:Int)by have:=h.app;omega,hx]
 simp only;rw [if_neg (by simpa using hd),List.append_assoc]
theorem V0.few2 {n m:zq}{k:Nat}{ms:List zx}(h:V0 n k m ms):ms.length<=64*k:=by
 have h1:=h.few.len;have h2:=congrArg List.length h.log;have h3:=h.app;rw [N1] at h2;omega
theorem V0.fin {n m:zq}{k:Nat}{ms:List zx}(h:V0 n k m ms)(hx:zH (k:Int) n.pax.known=none):jB 10001 n=(m,ms):=by
 obtain⟨f,hf,aa⟩:=h.far;rw [aa]
 cases f with
 |zero=>simp [jB]
 |succ f=>
  rw [jB,h.pax,show(m.applied:Int)+1=(k:Int)by have:=h.app;omega,hx];simp
theorem vj.own {B:Nat}{t:List Nat}(ht:t≠ []){ow:Own}{w W0:World}{m:zq}{ow1 ow2:Own}{X:Nat->Prop}{W W':World}(h:vj B t ow w W0 m ow1 X W)(hs:zp t ow1 W ow2 W'){k:Nat}(hk:w.heap.size<=k)(hk2:k<W0.heap.size):W'.heap[k]?=W.heap[k]?:=
 hs.block (by have:=h.sz;omega) (by rw [h.free k hk hk2];exact zj ht)
theorem zk5.step {B:Nat}{t:List Nat}(ht:t≠ []){ow:Own}{w W0:World}{kb:Nat}{m:zq}{ms:List zx}{v:Value}{ow1 ow2:Own}{X:Nat->Prop}{W W':World}(hN:vj B t ow w W0 m ow1 X W)(h:zk5 B t ow w W0 kb ms v ow1 X W)(hk:w.heap.size<=kb)(hk2:kb<W0.heap.size)(hs:zp t ow1 W ow2 W'):zk5 B t ow w W0 kb ms v ow2 X W' where
 kS:=h.kS.kept (hN.own ht hs hk hk2)
 row:=h.row.step hs (λg hg=>by rw [(h.new g hg).2.1];exact zj ht)
 new:=λg hg=>⟨(h.new g hg).1,by rw [hs.agree g (h.row.lt hg)];exact(h.new g hg).2.1,(h.new g hg).2.2⟩
theorem zap(a:Addr)(B:Nat)(n:zq)(t:List Nat)(ht:t≠ [])(ow:Own)(w:World)(hN:jH B n t ow w)(he:jv w a)(hge:ow 2=[])
 (hb:xf n.loc n.applied) (hap:n.applied<=10000) (hacc:n.acc.length<=200000) (hkn:yq n.pax.known) (hbad:n.bad=[]):
 Calls prog 109 #[.pointer (some ⟨B,0,none⟩)] w (qZ B t ow w (jB 10001 n)):=by
 obtain⟨px,sb,lb,pb,av,hI⟩:=hN;have hB:=hI.blk;unfold zD at hB;have cB:=hB.cell;have lB:=hB.lt;have cd:IntKind.i64.wrap ((n.applied:Int)+1)=(n.applied:Int)+1:=by rw [N8];omega
 refine zl func109 rfl ?_;simp only [ntmps109,R8,Nat.reduceAdd,Nat.reduceSub];go_wp2;go_step3;go_wp2;go_step3;obtain⟨Wa,az⟩:∃Wa,Wa=(w.alloc (.cells #[.pointer (some ⟨B,0,none⟩)] 43)).alloc (.cells #[.slice none 0 0] 42):=⟨_,rfl⟩;have bn:Below w.heap.size w Wa:=by rw [az];exact pbx
 have bu:Blk Wa w.heap.size #[.pointer (some ⟨B,0,none⟩)] 43:=by rw [az];exact bkx
 have cq:Blk Wa (w.heap.size+1) #[.slice none 0 0] 42:=by rw [az];exact bkx
 have co:Wa.heap.size=w.heap.size+2:=by rw [az];simp
 have b2:=hB.call bn;go_wp2_with fail
 rw [← az];clear az cB lB;refine zd [O 0,O 1,O 2,O 3,O 4,O 5,O 6,O 7,E 8] none (λw'=>Blk w' B #[.pointer (some ⟨px,0,none⟩),.int .i64 n.id,.int .i64 n.version,.slice none 0 0,.pointer (some ⟨sb,0,none⟩),.pointer (some ⟨lb,0,none⟩),.pointer (some ⟨pb,0,none⟩),av,.int .i64 (n.offered:Nat),.int .i64 (n.applied:Nat),.int .i64 n.wanted,.bool n.down] 98/\Blk w' w.heap.size #[.pointer (some ⟨B,0,none⟩)] 43/\True) (by kernel_rfl) (by kernel_rfl) ⟨b2.drew,bu.drew,trivial⟩ ?_
 refine We ?_
 refine zc rfl (λK hK=>?_);go_wp2_with fail
 refine(X4 B _ _).mono ?_;rintro r w1⟨rfl,rfl⟩;obtain⟨W0,a2⟩:∃W0,W0=((Wa.alloc (.cells #[.pointer (some ⟨B,0,none⟩)] 300)).alloc (.cells #[.int .i64 ((n.applied:Int)+1)] 3)).drew:=⟨_,rfl⟩;have a7:Below Wa.heap.size Wa W0:=by rw [a2];exact pbx
 have ce:Blk W0 Wa.heap.size #[.pointer (some ⟨B,0,none⟩)] 300:=by rw [a2];exact bkx
 have cf:Blk W0 (Wa.heap.size+1) #[.int .i64 ((n.applied:Int)+1)] 3:=by rw [a2];exact bkx
 have dp:W0.heap.size=w.heap.size+4:=by rw [a2];simp [co]
 have cr:=b2.call a7;have cm:=bu.call a7;have dc:=cq.call a7;go_wp2;rw [co] at ce cf;rw [← a2];refine hK.out _ _ (λ_=>⟨cr,cm,trivial⟩) ?_;clear hK K a2;refine zg ?_;have a6:Below w.heap.size w W0:=bn.trans (a7.mono (by omega));have cu:=(zw.loc B px sb lb pb av n t).cut hI a6;clear hB b2 bu cq hI cr a7 bn;replace cd:=hid cd;go_wp2_with fail
 refine xm (gf:=188) (lb:=#[.pointer (some ⟨w.heap.size+2+1,0,none⟩),.pointer (some ⟨w.heap.size+2,0,none⟩)]) rfl (enters_of func188 (by kernel_rfl) rfl)
  (VL (w.heap.size+2+1) (w.heap.size+2) B n.pax (t++ [0]) (n.applied+1) (by omega) hkn) (λ_=>rfl)
  (λk X W=>∃m ms v ow',vj B t ow w W0 m ow' X W/\zk5 B t ow w W0 (w.heap.size+1) ms v ow' X W/\V0 n k m ms/\Blk W w.heap.size #[.pointer (some ⟨B,0,none⟩)] 43/\Blk W (w.heap.size+2) #[.pointer (some ⟨B,0,none⟩)] 300/\Blk W (w.heap.size+2+1) #[.int .i64 ((n.applied:Int)+1)] 3)
  (λ_ _ _=>False)
  (λk X X' W W' h hm hx=>by
   obtain⟨m,ms,v,ow',h1,h2,h3,h4,h5,h6⟩:=h
   exact⟨m,ms,v,_,h1.stab ht (by omega) hm hx,h2.stab h1 (by omega) hm hx,h3,h4.kept (h1.blk hm (by omega)),h5.kept (h1.blk hm (by omega)),h6.kept (h1.blk hm (by omega))⟩)
  (λ_ _ X X' W W' h hm hx=>h)
  (λk X W h=>by
   obtain⟨m,ms,v,ow',h1,h2,h3,h4,h5,h6⟩:=h;obtain⟨cx,dw,ds,dt,dq,hn⟩:=h1.node;refine⟨by rw [show((n.applied+1:Nat):Int)=(n.applied:Int)+1 by omega];exact h6,h5,cx,ow',?_⟩
   exact⟨hn.blk.cell 0,by rw [← h3.pax];exact hn.pax⟩)
  ⟨n,[],.slice none 0 0,ow.cut w,⟨⟨_,_,_,_,_,cu⟩,zp.wrap a6 (zp.refl _ _ _),N0 _,λk h1 _=>Own.cut_new h1,λk h=>h.elim⟩,⟨dc,jc _ _ _,by simp [Value.ownBlock]⟩,⟨rfl,rfl,rfl,rfl,hb,by simp,10001,rfl,by simp⟩,cm,ce,cf⟩
  (λx=>[(4,.string (bs x))]) ?assign ?body ?done ?stop
 case assign=>
  intro l' x W K hK;rw [jf] at hK⊢
  gi_wp2
  exact hK
 case stop=>rintro D c X W hD bp h;exact h.elim
 case body=>
  rintro l' k x X W⟨m,ms,v,ow',h1,h2,h3,h4,h5,h6⟩ bb dg _;rw [jf];have dv:=hkn _ _ bb;have dj:=h3.app;obtain⟨db,da,c2,c7,cs,b8⟩:=h1.node;have a1:=b8.blk;have dy:IntKind.i64.wrap ((m.applied:Int)+1)=(m.applied:Int)+1:=by rw [N8];omega
  have du:m.bad=[]:=h3.bad.trans hbad;unfold zD at a1;have cp:Mod (λk=>k=B) W (W.setCell ⟨B,9,none⟩ (.int .i64 ((m.applied:Int)+1))):=(Mod.refl (λk=>k=B) W).thenSet (p:=⟨B,9,none⟩) rfl _;obtain⟨ar,br⟩:=b8.setOwn {m with applied:=m.applied+1} cp (a1.set (o:=9) (.int .i64 ((m.applied:Int)+1))) rfl rfl rfl rfl rfl rfl;have aa:=h1.step ar ⟨_,_,_,_,_,br⟩;have a4:=h2.step ht h1 (by omega) (by omega) ar;have bc:=h4.kept (h1.own ht ar (N0 _) (by omega));have b5:=h5.kept (h1.own ht ar (by omega) (by omega));have bj:=h6.kept (h1.own ht ar (by omega) (by omega));have aq:=h1.saves ht ar;have eN:=h4.cell;have lN:=h4.lt;have c0:=a1.cell;have c6:=a1.frozen;have df:=a1.lt;have aj:=λW=>zgF x W
  have a5:=λhd=>h3.bad1 bb (by omega) hd
  have a3:=λhd=>h3.ok1 bb (by omega) hd
  obtain⟨⟨⟨ek,ee,ev,em⟩,er⟩,bg⟩:∃q,jq x=q:=⟨_,rfl⟩;rw [bg] at aj a5 a3;unfold Jo ZS at aj;simp only at aj a5 a3;replace aj:=hid aj;replace bg:=hid bg;replace a5:=hid a5;replace a3:=hid a3;replace bb:=hid bb;obtain⟨W1,ci⟩:∃W1,W1=W.setCell ⟨B,9,none⟩ (.int .i64 ((m.applied:Int)+1)):=⟨_,rfl⟩
  gi_wp2_with fail
  rw [← ci] at ar br aa a4 bc b5 bj aq⊢;clear ci cp h1 h2 h4 h5 h6 eN lN c0 c6 df a1 b8;refine(inRound _ _ (aj.out _)).mono ?_;rintro r w2⟨mv,rfl,cy,ap,a9⟩;obtain⟨ma,mn,mc,rfl⟩:=ap.shape;have bi:Below W1.heap.size W1 (w2.alloc (.cells #[.int .i64 ek,.int .u32 ee,.int .i64 ev,.slice ma mn mc] 241)):=pbx;have ad:=zp.of_below t ow' bi;have dr:=aa.sz
  by_cases her:er=0
  ·subst her
   have ag:=a3.out rfl;have kE:Blk (w2.alloc (.cells #[.int .i64 ek,.int .u32 ee,.int .i64 ev,.slice ma mn mc] 241)) w2.heap.size #[.int .i64 ek,.int .u32 ee,.int .i64 ev,.slice ma mn mc] 241:=Blk.new (by simp);have de:=cy.size
   gi_wp2_with fail
   obtain⟨W3,ay⟩:∃W3,W3=(w2.alloc (.cells #[.int .i64 ek,.int .u32 ee,.int .i64 ev,.slice ma mn mc] 241)).drew:=⟨_,rfl⟩;have ah:Below W1.heap.size W1 W3:=by rw [ay];exact zm bi
   have b7:Below w2.heap.size w2 W3:=by rw [ay];exact pbx
   have b1:Blk W3 w2.heap.size #[.int .i64 ek,.int .u32 ee,.int .i64 ev,.slice ma mn mc] 241:=by rw [ay];exact kE.drew
   have cg:zp t ow' W1 ow' W3:=zp.of_below t ow' ah;have b3:=bc.call ah;have c8:=a4.kS.call ah;refine jI [O 0,O 1,O 2,E 3,E 4,E 5] (some 5) (λw'=>Blk w' (w.heap.size+1) #[v] 42/\Blk w' w.heap.size #[.pointer (some ⟨B,0,none⟩)] 43/\Blk w' w2.heap.size #[.int .i64 ek,.int .u32 ee,.int .i64 ev,.slice ma mn mc] 241/\True) (by kernel_rfl) (by kernel_rfl) (by rw [← ay];exact⟨c8,b3,b1,trivial⟩) ?_;rw [← ay];clear ay kE bi ad;have b0:=aa.step cg ((jH.loc B _ t).below aa.node ah);have cj:=a4.step ht aa (by omega) (by omega) cg;have c5:=(zw.loc B db da c2 c7 cs _ t).cut br ah;have b6:=he.step ht b0.st hge;have cw:=he.lt;have bv:(ow'.cut W1) 2=[]:=by rw [Own.cut_old (by have:=aa.st.size;omega),aa.st.agree _ cw];exact hge
   have ai:=zgI a B {m with applied:=m.applied+1} t ht (ow'.cut W1) ⟨ek,ee,ev,em⟩ (.slice ma mn mc) W3 c5 b6 bv (Src.below ap.src b7) (λb l c hv=>Own.cut_new (by cases hv;exact a9 _ rfl)) (by have:=zgL x;rw [bg.out] at this;exact Nat.le_trans this (by omega)) h3.few (by omega) (by show m.acc.length<=_;rw [h3.acc];exact hacc);have ae:=ag.few2;obtain⟨⟨m4,be⟩,ca⟩:∃q,vW {m with applied:=m.applied+1} ⟨ek,ee,ev,em⟩=q:=⟨_,rfl⟩;rw [ca] at ai ag ae;unfold qZ ZS at ai;simp only at ai ag ae;rw [N1] at ae;replace ai:=hid ai;replace ca:=hid ca;replace ag:=hid ag
   refine Wl ?_
   refine zc rfl (λK hK=>?_);go_wp2_with fail
   refine ai.out.mono ?_;rintro r w4⟨v4,ch,rfl,cc,c9,ba,cl⟩;have ax:zp t ow' W1 ch w4:=zp.wrap ah cc;have bd:=aa.step ax c9;have ac:=a4.step ht aa (by omega) (by omega) ax;have bh:=bc.kept (aa.own ht ax (N0 _) (by omega));have bm:=b5.kept (aa.own ht ax (by omega) (by omega));have cb:=bj.kept (aa.own ht ax (by omega) (by omega));have bf:=b1.kept (cc.free ht de b1.lt).1;have b4:=aa.saves ht ax;go_wp2;refine hK.out _ _ (λ_=>⟨ac.kS,bh,bf,trivial⟩) ?_;clear hK K;obtain⟨v6,w6,aw,ao,an,am⟩:=zM zdI ac.row ba.src (jA be) (by omega) 42;obtain⟨va,vn,vc,rfl⟩:=ao.shape;have af:∀g,v.ownBlock=some g->g≠w.heap.size+1/\g≠w.heap.size/\g≠w.heap.size+2/\g≠w.heap.size+2+1:=λg hg=>⟨ac.row.ne_blk ac.kS (by decide) hg,ac.row.ne_blk bh (by decide) hg,ac.row.ne_blk bm (by decide) hg,ac.row.ne_blk cb (by decide) hg⟩
   have a0:=ac.kS.kept (w':=w6) (an.block _ ac.kS.lt (λe=>(af _ e.symm).1 rfl));have ck:=bh.kept (w':=w6) (an.block _ bh.lt (λe=>(af _ e.symm).2.1 rfl));have cv:=bm.kept (w':=w6) (an.block _ bm.lt (λe=>(af _ e.symm).2.2.1 rfl));have cz:=cb.kept (w':=w6) (an.block _ cb.lt (λe=>(af _ e.symm).2.2.2 rfl));have ct:=bf.kept (w':=w6) (an.block _ bf.lt (λe=>ac.row.ne_blk bf (by decide) e.symm rfl));have cn:=bd.grown ht an ac.new;have bt:jm X w4 w6:=⟨an.size,λk hX hk=>an.block k hk (λe=>(ac.new k e.symm).2.2 hX)⟩
   have ab:∀g,(Value.slice va vn vc).ownBlock=some g->w.heap.size<=g/\(ch.cut w4) g=[] /\¬X g/\g≠w.heap.size+1:=λg hg=>by
    rw [hg] at am;have dx:=bd.sz
    rcases am with h|h
    ·exact⟨(ac.new g h.symm).1,by rw [Own.cut_old (ac.row.lt h.symm)];exact(ac.new g h.symm).2.1,(ac.new g h.symm).2.2,(af g h.symm).1⟩
    have bq:g=w4.heap.size:=by simpa using h
    subst bq;exact⟨by omega,Own.cut_new (N0 _),λhX=>by have:=(bd.xs _ hX).2.1;omega,by omega⟩
   have dd:=cn.set ht (p:=⟨w.heap.size+1,0,none⟩) (by show w.heap.size<=w.heap.size+1;omega) (cn.free (w.heap.size+1) (by omega) (by omega)) (.slice va vn vc)
   have a8:Row (w6.setCell ⟨w.heap.size+1,0,none⟩ (.slice va vn vc)) 78 3 (.slice va vn vc) (ms++be).length ((ms++be).flatMap zh):=by
    rw [N1,U5];exact Row.kept (w:=w6) ao (λg hg=>N4 _ _ _ _ (show g≠w.heap.size+1 from(ab g hg).2.2.2))
   have bk:jm X w6 (w6.setCell ⟨w.heap.size+1,0,none⟩ (.slice va vn vc)):=⟨by simp,λk hX hk=>N4 _ _ _ _ (show k≠w.heap.size+1 from λe=>by have:=(bd.xs k hX).1;omega)⟩
   have ak:(∃m ms v ow',vj B t ow w W0 m ow' X (w6.setCell ⟨w.heap.size+1,0,none⟩ (.slice va vn vc))/\zk5 B t ow w W0 (w.heap.size+1) ms v ow' X (w6.setCell ⟨w.heap.size+1,0,none⟩ (.slice va vn vc))/\V0 n (k+1) m ms/\Blk (w6.setCell ⟨w.heap.size+1,0,none⟩ (.slice va vn vc)) w.heap.size #[.pointer (some ⟨B,0,none⟩)] 43/\Blk (w6.setCell ⟨w.heap.size+1,0,none⟩ (.slice va vn vc)) (w.heap.size+2) #[.pointer (some ⟨B,0,none⟩)] 300/\Blk (w6.setCell ⟨w.heap.size+1,0,none⟩ (.slice va vn vc)) (w.heap.size+2+1) #[.int .i64 ((n.applied:Int)+1)] 3)/\jm X W (w6.setCell ⟨w.heap.size+1,0,none⟩ (.slice va vn vc)):=
    ⟨⟨m4,ms++be,.slice va vn vc,_,dd,⟨a0.set (o:=0) _,a8,λg hg=>⟨(ab g hg).1,(ab g hg).2.1,(ab g hg).2.2.1⟩⟩,ag.out,ck.other (p:=⟨w.heap.size+1,0,none⟩) (by show w.heap.size≠w.heap.size+1;omega) _,cv.other (p:=⟨w.heap.size+1,0,none⟩) (by show w.heap.size+2≠w.heap.size+1;omega) _,cz.other (p:=⟨w.heap.size+1,0,none⟩) (by show w.heap.size+2+1≠w.heap.size+1;omega) _⟩,((aq.trans b4).trans bt).trans bk⟩
   have dn:=a0.cell;have dh:=a0.frozen;have di:=a0.lt;have dl:=a0;replace ak:=hid ak;replace aw:=hid aw;replace am:=hid am;replace af:=hid af;replace ab:=hid ab;refine zc rfl (λK hK=>?_);refine zv rfl _ _ _ rfl rfl rfl aw.out ?_;unfold wpList;refine hK.out _ _ (λ_=>⟨a0,ck,ct,trivial⟩) ?_;clear hK K;refine zc rfl (λK hK=>?_);go_wp2;refine hK.out _ _ (λhh=>absurd rfl hh) ?_;clear hK K;refine zg ?_
   gi_wp2
   exact ak.out
  have t1:(er !=0)=true:=by simpa using her
  have b9:=a5.out her;have b0:=aa.step ad ((jH.loc B _ t).below aa.node bi);have cj:=a4.step ht aa (by omega) (by omega) ad;have bo:=aa.saves ht ad;have b3:=bc.kept (aa.own ht ad (N0 _) (by omega));have c1:=b5.kept (aa.own ht ad (by omega) (by omega));have c4:=bj.kept (aa.own ht ad (by omega) (by omega));replace her:=hid her
  gi_wp2
  exact⟨⟨_,ms,v,ow',b0,cj,b9,b3,c1,c4⟩,aq.trans bo⟩
 case done=>
  rintro D k X W hD bp ak⟨m,ms,v,ow',h1,h2,h3,h4,h5,h6⟩ bw;have bz:=h3.fin ak;replace bz:=hid bz;have c3:=h1.xs D bp;have bl:=h2.row;have al:=h2.new;have au:∀g,v.ownBlock=some g->g≠D:=λg hg e=>(al g hg).2.2 (e ▸ bp)
  have kS:=h2.kS;have eS:=kS.cell;replace al:=hid al;replace au:=hid au;go_wp2;rw [Exit.noGoto_ret];refine jl (D:=D) (v:=v) bw (by simp [results,Tryz.results109,go_sem]) ?_;rw [bz.out];exact⟨v,ow',rfl,h1.st.putNew D _ (by omega),(jH.loc B m t).put ht h1.node c3.2.2 _,bl.kept (λg hg=>U1 (au.out g hg)),λg hg=>⟨(al.out g hg).1,(al.out g hg).2.1⟩⟩
theorem zgM {p:xM}{i:Int}{x:List UInt8}(h:(zV p i x).2.2≠0):(zV p i x).1=p:=by
 unfold zV at*
 split at h
 ·rename_i h0;rw [if_pos h0]
 rename_i h0;rw [if_neg h0]
 split at h
 ·rename_i y hy
  split at h
  ·rename_i h2;simp only [if_pos h2]
  simp at h
 simp at h
theorem zgN(p:xM)(i:Int)(x:List UInt8):(zV p i x).2.1.length<=5000:=by
 unfold zV
 split
 ·simp
 rename_i h
 split
 ·split<;>simp
 simp only [xI,N1,List.length_cons,Zm]
 simp only [not_or] at h;simp
 omega
def zkx(B:Nat)(t:List Nat)(ow:Own)(w:World)(R:zq×List zx×Int)(e:Ending)(w':World):Prop:=
 ∃v ow',e=.returned (.tuple #[v,.int .i64 R.2.2])/\zp t ow w ow' w'/\jH B R.1 t ow' w'/\Row w' 78 3 v R.2.1.length (R.2.1.flatMap zh)/\(∀g,v.ownBlock=some g->w.heap.size<=g/\ow' g=[])
theorem zgO {px sb lb pb:Nat}{av:Value}(a:Addr)(B:Nat)(n:zq)(t:List Nat)(ht:t≠ [])(ow:Own)(i:Int)(x:List UInt8)(hx:x.length<=1000000)(w:World)(hN:zw B px sb lb pb av n t ow w)(hcap:vx n.store)
 (he:jv w a) (hge:ow 2=[]) (hb:xf n.loc n.applied) (hap0:n.applied<=10000) (hacc:n.acc.length<=200000) (hkn:yq n.pax.known):
 Calls prog 154 #[.pointer (some ⟨B,0,none⟩),.int .i64 i,.string (bs x)] w (zkx B t ow w (jd n i x)):=by
 have hB:=hN.blk;have hr:=xu w hB;have aa:=λW hW=>zep px n.pax (t++ [0]) ow i x hx W hW
 have ac:jd n i x=if n.down then(n,[],170)
  else if(zV n.pax i x).2.2≠0 then(n,[],(zV n.pax i x).2.2)
  else if(zV n.pax i x).2.1=[] then((jB 10001 {n with pax:=(zV n.pax i x).1}).1,(jB 10001 {n with pax:=(zV n.pax i x).1}).2,0)
  else if(yk {n with pax:=(zV n.pax i x).1} true (zV n.pax i x).2.1).2≠0 then((yk {n with pax:=(zV n.pax i x).1} true (zV n.pax i x).2.1).1,[],(yk {n with pax:=(zV n.pax i x).1} true (zV n.pax i x).2.1).2)
  else((jB 10001 (yk {n with pax:=(zV n.pax i x).1} true (zV n.pax i x).2.1).1).1,(jB 10001 (yk {n with pax:=(zV n.pax i x).1} true (zV n.pax i x).2.1).1).2,0):=rfl
 have ao:=zgN n.pax i x;have ag:= @zgM n.pax i x;have ae:=(JS (p:=n.pax) i x).2.1 hkn;have aq:=he.lt;have ap:=hN.bad;unfold zD at hB;unfold Yp at hr;have e0:=hB.cell;obtain⟨⟨p',rc,er⟩,a0⟩:∃q,zV n.pax i x=q:=⟨_,rfl⟩;rw [a0] at aa ac ao ag ae;unfold X0 at aa;simp only at aa ac ao ag ae;replace a0:=hid a0;replace aa:=hid aa;replace ag:=hid ag;replace he:=hid he;replace aq:=hid aq;replace ae:=hid ae
 by_cases hd:n.down=true
 ·rw [if_pos hd] at ac
  rw [hd] at hr;rw [ac];replace ac:=hid ac;replace hr:=hid hr;replace hd:=hid hd
  go_enter func154,ntmps154
  go_wp2_with fail
  refine hr.out.mono ?_;rintro e w1⟨rfl,aj⟩;obtain rfl:=aj.symm;go_wp2;go_ret2
  exact⟨_,ow,rfl,zp.refl _ _ _,⟨_,_,_,_,_,hN⟩,jc _ _ _,by simp [Value.ownBlock]⟩
 have ay:n.down=false:=by simpa using hd
 rw [if_neg hd] at ac;rw [ay] at hr;replace hr:=hid hr;replace hd:=hid hd;replace ay:=hid ay
 by_cases her:er=0
 ·subst her
  rw [if_neg (by simp)] at ac
  by_cases hrc:rc=[]
  ·rw [if_pos hrc] at ac
   rw [ac];have t1:(bs rc).toList.isEmpty=true:=by rw [vq,hrc];rfl
   have ah:=λaf W h1 he1 hg1=>zap a B {n with pax:=p'} t ht af W h1 he1 hg1 hb hap0 hacc ae.out ap
   unfold qZ at ah;replace ah:=hid ah;replace ac:=hid ac;replace hrc:=hid hrc
   go_enter func154,ntmps154
   go_wp2_with fail
   refine hr.out.mono ?_;rintro e w1⟨rfl,aj⟩;obtain rfl:=aj.symm;go_wp2_with fail
   refine(aa.out _ hN.pax).mono ?_;rintro e w1⟨rfl,af,ai,h1⟩;have an:=hN.setPax _ ai h1;have am:=ai.mono (Sub.child t 0);have ak:=am;go_wp2_with fail
   refine(ah.out af w1 ⟨_,_,_,_,_,an⟩ (he.out.step ht ak hge) (by rw [ak.agree _ aq.out];exact hge)).mono ?_;rintro e w5⟨v,au,rfl,ar,a1,ad,ab⟩;have az:=ak.size;replace ab:=hid ab;replace ad:=hid ad;go_wp2;go_ret2
   exact⟨v,au,rfl,ak.trans ar,a1,ad.out,λg hg=>⟨Nat.le_trans az (ab.out g hg).1,(ab.out g hg).2⟩⟩
  rw [if_neg hrc] at ac
  have t1:(bs rc).toList.isEmpty=false:=by rw [vq];cases rc with|nil=>exact absurd rfl hrc|cons _ _=>rfl
  have al:=λaf w1 h1 W h2 kb kc g h3 h4 k0 k1 kg=>YL B {n with pax:=p'} t ht af w1 h1 hcap true [rc] (by simp) (by simp) (by simp;omega) W h2 kb kc g h3 h4 k0 k1 kg
  rw [show [rc].flatten=rc by simp] at al;unfold YK at al;have ah:=λaf W h1 he1 hg1=>zap a B (yk {n with pax:=p'} true rc).1 t ht af W h1 he1 hg1 hb hap0 hacc ae.out ap
  unfold qZ at ah;obtain⟨⟨m,ek⟩,hm⟩:∃R,yk {n with pax:=p'} true rc=R:=⟨_,rfl⟩;rw [hm] at al ac ah;simp only at al ac ah;replace al:=hid al;replace ah:=hid ah;replace hm:=hid hm;replace hrc:=hid hrc
  by_cases hek:ek=0
  ·subst hek
   rw [if_neg (by simp)] at ac;rw [ac];replace ac:=hid ac
   go_enter func154,ntmps154
   go_wp2_with fail
   refine hr.out.mono ?_;rintro e w1⟨rfl,aj⟩;obtain rfl:=aj.symm;go_wp2_with fail
   refine(aa.out _ hN.pax).mono ?_;rintro e w1⟨rfl,af,ai,h1⟩;have an:=hN.setPax _ ai h1;have am:=ai.mono (Sub.child t 0);go_wp2_with fail
   refine(xw _ _ _).mono ?_;rintro e w2⟨rfl,rfl⟩;go_wp2_with fail
   refine(al.out af w1 ⟨_,_,_,_,_,an⟩ (((w1.alloc (.cells #[.pointer (some ⟨B,0,none⟩)] 43)).alloc (.cells #[.bool true] 4)).alloc (.cells #[.string (bs rc)] 9)) (pbx) w1.heap.size (w1.heap.size+1) _ (N0 _) (by omega) (bkx) (bkx) (Blk.new (by simp))).mono ?_;rintro e w3⟨rfl,aw,ax,a2, -⟩;have ak:=am.trans ax;go_wp2_with fail
   refine(ah.out aw w3 a2 (he.out.step ht ak hge) (by rw [ak.agree _ aq.out];exact hge)).mono ?_;rintro e w5⟨v,au,rfl,ar,a1,ad,ab⟩;have az:=ak.size;replace ab:=hid ab;replace ad:=hid ad;go_wp2;go_ret2
   exact⟨v,au,rfl,ak.trans ar,a1,ad.out,λg hg=>⟨Nat.le_trans az (ab.out g hg).1,(ab.out g hg).2⟩⟩
  rw [if_pos hek] at ac
  rw [ac];have t2:(ek !=0)=true:=by simpa using hek
  replace ac:=hid ac;replace hek:=hid hek
  go_enter func154,ntmps154
  go_wp2_with fail
  refine hr.out.mono ?_;rintro e w1⟨rfl,aj⟩;obtain rfl:=aj.symm;go_wp2_with fail
  refine(aa.out _ hN.pax).mono ?_;rintro e w1⟨rfl,af,ai,h1⟩;have an:=hN.setPax _ ai h1;have am:=ai.mono (Sub.child t 0);go_wp2_with fail
  refine(xw _ _ _).mono ?_;rintro e w2⟨rfl,rfl⟩;go_wp2_with fail
  refine(al.out af w1 ⟨_,_,_,_,_,an⟩ (((w1.alloc (.cells #[.pointer (some ⟨B,0,none⟩)] 43)).alloc (.cells #[.bool true] 4)).alloc (.cells #[.string (bs rc)] 9)) (pbx) w1.heap.size (w1.heap.size+1) _ (N0 _) (by omega) (bkx) (bkx) (Blk.new (by simp))).mono ?_;rintro e w3⟨rfl,aw,ax,a2, -⟩;go_wp2;go_ret2
  exact⟨_,aw,rfl,am.trans ax,a2,jc _ _ _,by simp [Value.ownBlock]⟩
 rw [if_pos her] at ac
 rw [ac];have t1:(er !=0)=true:=by simpa using her
 have a3:=ag.out her;subst a3;replace ac:=hid ac;replace her:=hid her
 go_enter func154,ntmps154
 go_wp2_with fail
 refine hr.out.mono ?_;rintro e w1⟨rfl,aj⟩;obtain rfl:=aj.symm;go_wp2_with fail
 refine(aa.out _ hN.pax).mono ?_;rintro e w1⟨rfl,af,ai,h1⟩;have an:=hN.setPax _ ai h1;have am:=ai.mono (Sub.child t 0);go_wp2;go_ret2
 exact⟨_,af,rfl,am,⟨_,_,_,_,_,an⟩,jc _ _ _,by simp [Value.ownBlock]⟩
theorem zcU {px sb lb pb:Nat}{av:Value}(B:Nat)(n:zq)(t:List Nat)(ht:t≠ [])(ow:Own)(w:World)(hN:zw B px sb lb pb av n t ow w)(hap0:n.applied<=10000)(hkn:yq n.pax.known):
 Calls prog 97 #[.pointer (some ⟨B,0,none⟩)] w λe w'=>e=.returned (.int .i64 (yE n:Nat))/\Below w.heap.size w w':=by
 have hB:=hN.blk;have hn:=YI w hB;unfold zD at hB;have e0:=hB.cell;have ap:IntKind.i64.wrap ((n.applied:Int)+1)=(n.applied:Int)+1:=by rw [N8];omega
 replace hn:=hid hn;refine zl func97 rfl ?_;simp only [ntmps97,R8,Nat.reduceAdd,Nat.reduceSub];go_wp2_with fail
 refine hn.out.mono ?_;rintro e w1⟨rfl,ay⟩;obtain rfl:=ay.symm;have ai:=(zw.loc B px sb lb pb av n t).cut hN ((N2 w.heap.size w).alloc (N0 _) (.cells #[.int .i64 ((n.applied:Int)+1)] 3));have aq:=hB.alloc (.cells #[.int .i64 ((n.applied:Int)+1)] 3);have ag:Blk (w.alloc (.cells #[.int .i64 ((n.applied:Int)+1)] 3)) w.heap.size #[.int .i64 ((n.applied:Int)+1)] 3:=Blk.new (by simp);have ao:=(N2 w.heap.size w).alloc (N0 _) (.cells #[.int .i64 ((n.applied:Int)+1)] 3);go_wp2_with fail
 obtain⟨Wa,am⟩:∃Wa,Wa=w.alloc (.cells #[.int .i64 ((n.applied:Int)+1)] 3):=⟨_,rfl⟩;have ar:Wa.heap.size=w.heap.size+1:=by rw [am];simp
 rw [← am] at ai aq ag ao⊢;clear am e0;refine zd [O 0,O 1,O 2,O 3,E 4] none (λw'=>Blk w' w.heap.size #[.int .i64 ((n.applied:Int)+1)] 3/\True) (by kernel_rfl) (by kernel_rfl) ⟨ag.drew,trivial⟩ ?_
 refine Wd ?_
 refine zc rfl (λK hK=>?_);go_wp2_with fail
 refine(X4 B _ _).mono ?_;rintro r w1⟨rfl,rfl⟩;obtain⟨W0,ae⟩:∃W0,W0=((Wa.alloc (.cells #[.pointer (some ⟨B,0,none⟩)] 300)).alloc (.cells #[.int .i64 ((n.applied:Int)+1)] 3)).drew:=⟨_,rfl⟩;have ah:Below Wa.heap.size Wa W0:=by rw [ae];exact pbx
 have au:Blk W0 Wa.heap.size #[.pointer (some ⟨B,0,none⟩)] 300:=by rw [ae];exact bkx
 have aw:Blk W0 (Wa.heap.size+1) #[.int .i64 ((n.applied:Int)+1)] 3:=by rw [ae];exact bkx
 have a4:W0.heap.size=w.heap.size+3:=by rw [ae];simp [ar]
 have an:=ag.call ah;rw [ar] at au aw;go_wp2;rw [← ae];refine hK.out _ _ (λ_=>⟨an,trivial⟩) ?_;clear hK K ae;refine zg ?_;have a0:=(zw.loc B px sb lb pb av n t).below ai ah;have ax:(ow.cut w) w.heap.size=[]:=Own.cut_new (N0 _);have aj:Below w.heap.size w W0:=ao.trans (ah.mono (by omega));have al:yE n=JG n.pax.known 10001 (n.applied+1):=rfl;clear hB aq ag hN ai ah;replace ap:=hid ap;replace al:=hid al;go_wp2_with fail
 refine xm (gf:=188) (lb:=#[.pointer (some ⟨w.heap.size+1+1,0,none⟩),.pointer (some ⟨w.heap.size+1,0,none⟩)]) rfl (enters_of func188 (by kernel_rfl) rfl)
  (VL (w.heap.size+1+1) (w.heap.size+1) B n.pax (t++ [0]) (n.applied+1) (by omega) hkn) (λ_=>rfl)
  (λk X W=>Fr (λj=>j=w.heap.size) W0 X W/\Blk W w.heap.size #[.int .i64 (k:Nat)] 3/\∃f,f+k=10001+(n.applied+1)/\yE n=JG n.pax.known f k)
  (λ_ _ _=>False)
  (λk X X' W W' h hm hx=>⟨h.1.step hm hx,h.2.1.kept (h.1.block hm (by omega)),h.2.2⟩)
  (λ_ _ X X' W W' h hm hx=>h)
  (λk X W h=>by
   refine⟨aw.mod h.1.2 (by omega),au.mod h.1.2 (by omega),?_⟩;have hn:=zw.loc B px sb lb pb av n t _ (ow.cut w) _ W a0 h.1.2.size (λj hj hs=>⟨rfl,h.1.2.block j hj (λe=>by subst e;rw [ax] at hs;exact zj ht hs)⟩)
   exact⟨px,_,hn.blk.cell 0,hn.pax⟩)
  ⟨Fr.refl _ _,an,10001,rfl,al.out⟩
  (λx=>[]) ?assign ?body ?done ?stop
 case assign=>
  intro l' x W K hK;rw [jf] at hK⊢
  gi_wp2
  exact hK
 case stop=>rintro D c X W hD a1 h;exact h.elim
 case body=>
  rintro l' k x X W⟨af,kN,f,hf,ad⟩ ab a2 _;rw [jf];have a3:=hkn _ _ ab;obtain⟨f',rfl⟩:∃f',f=f'+1:=⟨f - 1,by omega⟩;have hw:IntKind.i64.wrap ((k:Int)+1)=(k:Int)+1:=by rw [N8];omega
  have eN:=kN.cell;have fN:=kN.frozen;have lN:=kN.lt;have aa:yE n=JG n.pax.known f' (k+1):=by rw [ad,JG,ab];rfl
  have hm:Mod (λj=>j=w.heap.size) W (W.setCell ⟨w.heap.size,0,none⟩ (.int .i64 ((k:Int)+1))):=(Mod.refl (λj=>j=w.heap.size) W).thenSet (p:=⟨w.heap.size,0,none⟩) rfl _;replace ad:=hid ad;replace aa:=hid aa;replace ab:=hid ab
  gi_wp2
  exact⟨⟨af.mod hm (λ_ _ e=>e),kN.set (o:=0) _,f',by omega,aa.out⟩,jm.of_mod hm (λj hj hX e=>by subst e;have:=(af.1 _ hX).1;omega)⟩
 case done=>
  rintro D k X W hD a1 ac⟨af,kN,f,hf,ad⟩ ak
  have aa:yE n=k:=by
   rw [ad]
   cases f with
   |zero=>rfl
   |succ f=>rw [JG,ac];rfl
  have az:Below w.heap.size w W:=aj.trans (af.below (by omega) (λj hj=>by omega));have eN:=kN.cell;replace ad:=hid ad;replace aa:=hid aa;replace ac:=hid ac;go_wp2;refine jl (D:=D) (v:=.int .i64 (k:Nat)) ak (by simp [results,Tryz.results97,go_sem]) ?_;rw [aa.out];exact⟨rfl,zS az (by omega) _⟩
theorem zgP(n:zq)(s:StD)(l:List (List UInt8)):(l.foldl Zl (ZY n s)).acc.length<=l.length/\yq (l.foldl Zl (ZY n s)).pax.known/\(l.foldl Zl (ZY n s)).loc=zjz n.version s/\(l.foldl Zl (ZY n s)).applied=0/\(l.foldl Zl (ZY n s)).bad=n.bad:=by
 rw [za7];exact⟨zfb l,za8 l,rfl,rfl,rfl⟩
