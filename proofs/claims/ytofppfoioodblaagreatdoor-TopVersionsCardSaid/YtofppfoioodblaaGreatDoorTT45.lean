/- PARTS OF THE PROOF. -/
import Derived.Test.YtofppfoioodblaaGreatDoorTT33
import Derived.Test.YtofppfoioodblaaGreatDoorTT44
set_option maxRecDepth 8000
set_option maxHeartbeats 4000000
open Go.Proofs.Tryz
namespace Go.Proofs.YtofppfoioodblaaGreatDoor
section
open Go Go.RowKit
variable {P:Program}{ops:Array Oper}{Q:Exit->Act->World->Prop}
theorem zas {m:Nat}{listed:Array Bool}(R:List Nat)(fr:(Nat->Value)->Act)(g0:Nat->Value)(vf:Nat->Nat->Value)(obj:Nat->Obj)(W0:World)(hok:zdd ops listed R=true)
 (hrun:∀i∈R,∀g W,wpOp P ops (λ_ _ _=>False) i (λa' w'=>a'=fr (λj=>if j=i then vf i W.heap.size else g j)/\w'=W.alloc (obj i)) (fr g) W)
 (hend:∀(h:Nat->Nat) W,(∀i∈R,W.heap[h i]?=some (obj i)/\W0.heap.size<=h i)->(∀i∈R,∀j∈R,i≠j->h i≠h j)->Below W0.heap.size W0 W->yu P ops (jf Q) zbC none m (zfD listed R []) (fr λi=>vf i (h i)) W):
 ∀(n:Nat)(rest:List Nat)(W:World)(h:Nat->Nat),rest.length=n->rest∈zai R->(∀i∈R,i∉rest->W.heap[h i]?=some (obj i)/\W0.heap.size<=h i)->(∀i∈R,i∉rest->∀j∈R,j∉rest->i≠j->h i≠h j)->Below W0.heap.size W0 W->yu P ops (jf Q) zbC none (n+m) (zfD listed R rest) (fr λi=>if i∈rest then g0 i else vf i (h i)) W:=by
 intro n
 induction n with
 |zero=>
  intro rest W h hl hs hR hd hb;obtain rfl:=N9 hl;rw [Nat.zero_add];simp only [List.not_mem_nil,if_false];exact hend h W (λi hi=>hR i hi (by simp)) (λi hi j hj=>hd i hi (by simp) j hj (by simp)) hb
 |succ n ih=>
  intro rest W g hl hs hR hd hb;have h1:=hok;unfold zdd at h1;rw [List.all_eq_true] at h1;have h2:=h1 rest hs;rw [Bool.or_eq_true] at h2
  rcases h2 with h2|h2
  ·have:rest=[]:=by simpa using h2
   subst this;simp at hl
  ·simp only [Bool.and_eq_true,decide_eq_true_eq,List.all_eq_true] at h2
   obtain⟨h3,h4⟩:=h2;rw [show n+1+m=(n+m)+1 by omega];refine⟨λh0=>(by rw [h3] at h0;subst h0;simp at hl),λi hi=>?_⟩;rw [h3] at hi;obtain⟨⟨⟨h5,h6⟩,h7⟩,h8⟩:=h4 i hi;have hiR:i∈R:=by simpa using h5
   refine vT (wpOp_mono (λa' w' h=>?_) (hrun i hiR _ W));obtain⟨rfl,rfl⟩:=h;refine⟨λ_=>trivial,?_⟩;rw [h6];have hold:∀j∈R,j∉rest.filter (· !=i)->j≠i->j∉rest:=λj hj hjn hji h=>hjn (by simp [h,hji])
   have hfn:(λj=>if j=i then vf i W.heap.size else if j∈rest then g0 j else vf j (g j))=λj=>if j∈rest.filter (· !=i)then g0 j else vf j (if j=i then W.heap.size else g j):=by
    funext j
    by_cases hji:j=i
    ·subst hji;simp
    ·by_cases hjr:j∈rest<;>simp [hji,hjr]
   rw [hfn];refine ih _ _ _ (by omega) (by simpa using h7) (λj hj hjn=>?_) (λj hj hjn j' hj' hjn' hne=>?_) (hb.alloc hb.size _)
   ·by_cases hji:j=i
    ·subst hji
     simp only [if_true];exact⟨World.alloc_heap_new W _,hb.size⟩
    ·simp only [if_neg hji]
     have h:=hR j hj (hold j hj hjn hji);exact⟨(U4 W _ _ (N5.1 h.1).1).trans h.1,h.2⟩
   ·have hlt:∀x∈R,x∉rest->g x<W.heap.size:=λx hx hxr=>(N5.1 (hR x hx hxr).1).1
    by_cases hji:j=i
    ·subst hji
     simp only [if_true,if_neg (Ne.symm hne)];have:=hlt j' hj' (hold j' hj' hjn' (Ne.symm hne));omega
    ·by_cases hji':j'=i
     ·subst hji'
      simp only [if_true,if_neg hji];have:=hlt j hj (hold j hj hjn hji);omega
     ·simp only [if_neg hji,if_neg hji']
      exact hd j hj (hold j hj hjn hji) j' hj' (hold j' hj' hjn' hji') hne
theorem zhM {m:Nat}{listed:Array Bool}{w:World}(R:List Nat)(fr:(Nat->Value)->Act)(g0:Nat->Value)(vf:Nat->Nat->Value)(obj:Nat->Obj)(hok:(zdd ops listed R && decide (R∈zai R)&& decide (zfD listed R R=listed))=true)(hfr:∀g g',(∀i∈R,g i=g' i)->fr g=fr g')
 (hrun:∀i∈R,∀g W,wpOp P ops (λ_ _ _=>False) i (λa' w'=>a'=fr (λj=>if j=i then vf i W.heap.size else g j)/\w'=W.alloc (obj i)) (fr g) W)
 (hend:∀(h:Nat->Nat) W,(∀i∈R,W.heap[h i]?=some (obj i)/\w.heap.size<=h i)->(∀i∈R,∀j∈R,i≠j->h i≠h j)->Below w.heap.size w W->yu P ops (jf Q) zbC none m (zfD listed R []) (fr λi=>vf i (h i)) W):yu P ops (jf Q) zbC none (R.length+m) listed (fr g0) w:=by
 simp only [Bool.and_eq_true,decide_eq_true_eq] at hok;obtain⟨⟨h1,h2⟩,h3⟩:=hok;have:=zas R fr g0 vf obj w h1 hrun hend R.length R w (λ_=>0) rfl h2 (λi hi hn=>absurd hi hn) (λi hi hn=>absurd hi hn) (N2 _ _);rw [h3,hfr (λi=>if i∈R then g0 i else vf i 0) g0 (λi hi=>by simp [hi])] at this;exact this
def frp(a:Act)(d:Nat->Nat)(R:List Nat)(g:Nat->Value):Act:={a with tmps:=R.foldl (λt i=>t.setIfInBounds (d i) (g i)) a.tmps}
theorem zhN(a:Act)(d:Nat->Nat)(R:List Nat)(g g':Nat->Value)(h:∀i∈R,g i=g' i):frp a d R g=frp a d R g':=by
 unfold frp
 congr 1
 generalize a.tmps=t
 induction R generalizing t with
 |nil=>rfl
 |cons i R ih=>rw [List.foldl_cons,List.foldl_cons,h i (by simp)];exact ih (λj hj=>h j (by simp [hj])) _
theorem zfU {m:Nat}{listed:Array Bool}{a:Act}{w:World}(R:List Nat)(d:Nat->Nat)(g0:Nat->Value)(vf:Nat->Nat->Value)(obj:Nat->Obj)(hok:(zdd ops listed R && decide (R∈zai R)&& decide (zfD listed R R=listed))=true)(h0:frp a d R g0=a)
 (hrun:∀i∈R,∀g W,wpOp P ops (λ_ _ _=>False) i (λa' w'=>a'=frp a d R (λj=>if j=i then vf i W.heap.size else g j)/\w'=W.alloc (obj i)) (frp a d R g) W)
 (hend:∀(h:Nat->Nat) W,(∀i∈R,W.heap[h i]?=some (obj i)/\w.heap.size<=h i)->(∀i∈R,∀j∈R,i≠j->h i≠h j)->Below w.heap.size w W->yu P ops (jf Q) zbC none m (zfD listed R []) (frp a d R λi=>vf i (h i)) W):yu P ops (jf Q) zbC none (R.length+m) listed a w:=by
 have:=zhM R (frp a d R) g0 vf obj hok (zhN a d R) hrun hend
 rwa [h0] at this
end
open Go Go.RowKit Go.Shelf Go.Extern.Stop Go.Stop Go.Extern
attribute [local go_sem] Oper.semAt_some zv zm
theorem zk0:Yc prog 62 43 1 8 (.pointer none):=⟨Tryz.underlying62,by kernel_rfl,rfl,by decide,by decide⟩
theorem zb1(l:List Nat):∀u∈vu l,u.oneCell'=true:=by
 intro u hu;obtain⟨m,_,rfl⟩:=List.mem_map.1 hu;rfl
def JY(n:Nat):Array Value:=((List.replicate n yV).flatMap jY).toArray
theorem zjF:Yc prog 57 90 5 32 (.agg #[.int .u64 0,.int .i64 0,.int .i64 0,.bool false,.bool false]):=⟨Tryz.underlying57,by kernel_rfl,rfl,by decide,by decide⟩
theorem zfV(n:Nat)(hn:n<=16):madeCells #[.int .u64 0,.int .i64 0,.int .i64 0,.bool false,.bool false] (n*5)=JY n:=by
 rcases(by omega:n=0∨n=1∨n=2∨n=3∨n=4∨n=5∨n=6∨n=7∨n=8∨n=9∨n=10∨n=11∨n=12∨n=13∨n=14∨n=15∨n=16)with rfl|rfl|rfl|rfl|rfl|rfl|rfl|rfl|rfl|rfl|rfl|rfl|rfl|rfl|rfl|rfl|rfl<;>kernel_rfl
theorem zfW(n:Nat)(hn:n<=16)(W:World):(Instr.makeSlice 57 (.int .i64 (n:Nat)) (.int .i64 (n:Nat))).run prog W=.ok (.slice (some ⟨W.heap.size,0,none⟩) n n) (W.alloc (.cells (JY n) 90)):=by
 obtain⟨i,hi,hz0,hz1,hz2⟩:=info_parts zjF.info;have h:=run_makeSlice (P:=prog) (w:=W) 57 90 i _ zjF.under hi hz0 .i64 .i64 (n:Nat) (n:Nat) (by omega) (Int.le_refl _) (by rw [hz1];omega) (by rw [hz2];omega) (by omega);simp only [Int.toNat_natCast,hz1] at h;rw [h,← zfV n hn];rfl
structure JZ(B sb lm fb hm n:Nat)(v cap:Int)(nv:Value)(nl:List Nat)(t:List Nat)(ow:Own)(W:World):Prop where
 blk:Blk W B #[nv,.slice (some ⟨sb,0,none⟩) n n,.map (some lm),.pointer (some ⟨fb,0,none⟩),.map (some hm),.map none,.slice none 0 0] 65
 own:ow B=t
 row:Row W 43 1 nv nl.length (vu nl)
 rown:∀g,nv.ownBlock=some g->ow g=t++ [20]
 nodes:∀(i:Nat) b,nl[i]?=some b->jC b (zgd i v cap [] (zt v)) (t++ [i]) ow W
 sk:Blk W sb (JY n) 90
 so:ow sb=t++ [21]
 lk:jc W lm Vb []
 lo:ow lm=t++ [17]
 hk:jc W hm zge []
 ho:ow hm=t++ [18]
 fl:jL fb 0 [] (t++ [16]) ow W
theorem JZ.loc(B sb lm fb hm n:Nat)(v cap:Int)(nv:Value)(nl:List Nat)(t:List Nat):yK t (JZ B sb lm fb hm n v cap nv nl t):=by
 intro ow ow' W W' h hs hk;have kk:∀k i,k<W.heap.size->ow k=t++ [i] ->ow' k=ow k/\W'.heap[k]?=W.heap[k]?:=λk i h1 h2=>hk k h1 (by rw [h2];exact Sub.child t i)
 have kB:=hk B h.blk.lt (by rw [h.own];exact Sub.rfl' t);have ks:=kk sb 21 h.sk.lt h.so;have kl:=kk lm 17 h.lk.lt h.lo;have kh:=kk hm 18 h.hk.lt h.ho;have kr:=λg hg=>kk g 20 (h.row.lt hg) (h.rown g hg)
 exact⟨h.blk.kept kB.2,kB.1.trans h.own,h.row.kept (λg hg=>(kr g hg).2),λg hg=>(kr g hg).1.trans (h.rown g hg),
  λi b hb=>jC.loc _ _ _ _ _ _ _ (h.nodes i b hb) hs (λk h1 h2=>hk k h1 ((Sub.child t i).trans h2)),
  h.sk.kept ks.2,ks.1.trans h.so,h.lk.kept kl.2,kl.1.trans h.lo,h.hk.kept kh.2,kh.1.trans h.ho,jL.loc _ _ _ _ _ _ _ _ h.fl hs (λk h1 h2=>hk k h1 ((Sub.child t 16).trans h2))⟩
theorem JZ.push {B sb lm fb hm n:Nat}{v cap:Int}{nv nv':Value}{nl:List Nat}{t:List Nat}{ow:Own}{W W7:World}(h:JZ B sb lm fb hm n v cap nv nl t ow W){b:Nat}(hN:jC b (zgd nl.length v cap [] (zt v)) (t++ [nl.length]) ow W)(hl:nl.length<16)
 (hrow:Row W7 43 1 nv' (nl++ [b]).length (vu (nl++ [b]))) (hgr:W.grownBy W7 nv.ownBlock) (hown:nv'.ownBlock=nv.ownBlock∨nv'.ownBlock=some W.heap.size):
 zq t ow W (ow.ext W.heap.size (λk=>nv'.ownBlock=some k) (t++ [20])) (W7.setCell ⟨B,0,none⟩ nv')/\JZ B sb lm fb hm n v cap nv' (nl++ [b]) t (ow.ext W.heap.size (λk=>nv'.ownBlock=some k) (t++ [20])) (W7.setCell ⟨B,0,none⟩ nv'):=by
 have hneB:∀g,nv.ownBlock=some g->g≠B:=λg hg=>h.row.ne_blk h.blk (by decide) hg
 have lB:=h.blk.lt
 have hg5:∀g,nv'.ownBlock=some g->(nv.ownBlock=some g∨g=W.heap.size):=λg hg=>by
  rw [hg] at hown
  rcases hown with h|h
  ·exact .inl h.symm
  ·right;simpa using h
 have k7:=h.blk.kept (w':=W7) (hgr.block B lB (λe=>hneB B e.symm rfl))
 have hneB':∀g,nv'.ownBlock=some g->g≠B:=λg hg e=>by
  rcases hg5 g hg with h1|h1
  ·exact hneB g h1 e
  ·omega
 have hst:zq t ow W (ow.ext W.heap.size (λk=>nv'.ownBlock=some k) (t++ [20])) (W7.setCell ⟨B,0,none⟩ nv'):=
  ⟨(Mod.grown (X:=λk=>Sub t (ow k)) hgr (λk hk=>by rw [h.rown k hk];exact Sub.child t 20)).thenSet (p:=⟨B,0,none⟩) (by simp only [h.own];exact Sub.rfl' t) _,λk hk=>Own.ext_old hk⟩
 have hkp:∀j,j≠20->∀k,k<W.heap.size->Sub (t++ [j]) (ow k)->(ow.ext W.heap.size (λk=>nv'.ownBlock=some k) (t++ [20])) k=ow k/\(W7.setCell ⟨B,0,none⟩ nv').heap[k]?=W.heap[k]?:=λj hj k hk hs=>by
  refine⟨Own.ext_old hk,?_⟩;have hkB:k≠B:=λe=>by rw [e,h.own] at hs;exact zQ t j hs
  rw [N4 _ _ _ _ hkB];refine hgr.block k hk (λe=>?_);rw [h.rown k e.symm] at hs;exact(zP t hj).1 hs
 have k1:∀k j,j≠20->k<W.heap.size->ow k=t++ [j] ->(ow.ext W.heap.size (λk=>nv'.ownBlock=some k) (t++ [20])) k=ow k/\(W7.setCell ⟨B,0,none⟩ nv').heap[k]?=W.heap[k]?:=λk j hj hk ho=>hkp j hj k hk (by rw [ho];exact Sub.rfl' _)
 have ks:=k1 sb 21 (by omega) h.sk.lt h.so;have kl:=k1 lm 17 (by omega) h.lk.lt h.lo;have kh:=k1 hm 18 (by omega) h.hk.lt h.ho
 refine⟨hst,k7.set nv',(Own.ext_old lB).trans h.own,hrow.kept (λg hg=>N4 _ _ _ _ (λe=>hneB' g hg e)),λg hg=>?_,λi c hc=>?_,
  h.sk.kept ks.2,ks.1.trans h.so,h.lk.kept kl.2,kl.1.trans h.lo,h.hk.kept kh.2,kh.1.trans h.ho,jL.loc _ _ _ _ _ _ _ _ h.fl hst.size (hkp 16 (by omega))⟩
 ·rcases hg5 g hg with h1|h1
  ·rw [Own.ext_old (h.row.lt h1),h.rown g h1]
  ·rw [Own.ext_new (by omega) hg]
 ·rcases Nat.lt_or_ge i nl.length with hi|hi
  ·rw [U8 hi] at hc
   exact jC.loc _ _ _ _ _ _ _ (h.nodes i c hc) hst.size (hkp i (by omega))
  ·rw [U6 hi] at hc
   have hi0:i=nl.length:=by
    have:=(N6.1 hc).1;simp at this;omega
   subst hi0;simp at hc
   subst hc;exact jC.loc _ _ _ _ _ _ _ hN hst.size (hkp nl.length (by omega))
theorem JZ.done {B sb lm fb hm n bx dm:Nat}{v cap:Int}{nv:Value}{nl:List Nat}{t:List Nat}{ow:Own}{W:World}(h:JZ B sb lm fb hm n v cap nv nl t ow W)(hn:nl.length=n)(h1:1<=n)(hn16:n<=16)
 (hb:Blk W bx #[.pointer (some ⟨B,0,none⟩)] 24) (hd:jc W dm zi9 (zdb bx)) (ob:ow bx=t++ [19]) (od:ow dm=t++ [19]):
 zq t ow W ow (W.setCell ⟨B,5,none⟩ (.map (some dm)))/\∃K,zL B K (qW n v cap (zt v)) t ow (W.setCell ⟨B,5,none⟩ (.map (some dm))):=by
 have hM:Mod (λk=>k=B) W (W.setCell ⟨B,5,none⟩ (.map (some dm))):=(Mod.refl (λk=>k=B) W).thenSet (p:=⟨B,5,none⟩) rfl _
 obtain⟨nb,nc,hnv⟩:∃nb nc,nv=.slice (some ⟨nb,0,none⟩) nl.length nc:=by
  rcases h.row.form with⟨-,h0, -⟩|⟨g,cap,h, -⟩
  ·omega
  ·exact⟨g,cap,h⟩
 subst hnv;have hnB:∀k i,ow k=t++ [i] ->k≠B:=λk i ho e=>by rw [e,h.own] at ho;have:=congrArg List.length ho;simp at this
 have hkp:∀k i,ow k=t++ [i] ->(W.setCell ⟨B,5,none⟩ (.map (some dm))).heap[k]?=W.heap[k]?:=λk i ho=>N4 _ _ _ _ (hnB k i ho)
 have hnl:(qW n v cap (zt v)).nodes.length=n:=by simp [qW]
 refine⟨zq.setCell W ⟨B,5,none⟩ _ (by simp only [h.own];exact Sub.rfl' t),⟨fb,lm,hm,dm,bx,nb,nc,sb,nl⟩,.slice none 0 0,λ_=>none,?_,h.own,λi=>?_⟩
 ·rw [hnl]
  have:=h.blk.set (o:=5) (.map (some dm));rw [hn] at this;exact this
 unfold vN
 split
 ·intro m hm'
  have hm2:((List.range n).map λ(i:Nat)=>zgd i v cap [] (zt v))[i]?=some m:=hm';rw [List.getElem?_map] at hm2;obtain⟨j,hj,rfl⟩:=Option.map_eq_some_iff.1 hm2;obtain⟨hjl,hje⟩:=N6.1 hj;simp only [List.getElem_range] at hje;subst hje;have hil:i<nl.length:=by simp only [List.length_range] at hjl;omega
  refine⟨nl[i],N3 hil,?_⟩;exact(jC.loc _ _ _).node (h.nodes i _ (N3 hil)) h.own hM (λ_ _=>rfl)
 split
 ·rename_i e;subst e
  exact(jL.loc _ _ _ _).node h.fl h.own hM (λ_ _=>rfl)
 split
 ·rename_i e;subst e
  exact⟨h.lo,[],by simp,h.lk.kept (hkp _ _ h.lo),λj=>rfl⟩
 split
 ·rename_i e;subst e
  exact⟨h.ho,h.hk.kept (hkp _ _ h.ho)⟩
 split
 ·rename_i e;subst e
  exact⟨od,ob,hd.kept (hkp _ _ od),hb.kept (hkp _ _ ob)⟩
 split
 ·rename_i e;subst e
  refine⟨h.rown nb rfl,by rw [hnl];exact hn,?_⟩;rw [hnl,← hn];exact h.row.kept (λg hg=>hkp _ _ (h.rown g hg))
 split
 ·rename_i e;subst e
  exact⟨h.so,by rw [hnl];simp [qW],h.sk.kept (hkp _ _ h.so)⟩
 split
 ·exact⟨λg hg=>by simp [Value.ownBlock] at hg,z7 _ _ _⟩
 split
 ·trivial
 ·simp [qW,zD]
def zjj(n:Nat)(v cap:Int)(t:List Nat)(ow:Own)(w:World)(e:Ending)(w':World):Prop:=
 ∃B K ow',e=.returned (.tuple #[.pointer (some ⟨B,0,none⟩),.int .i64 0])/\zq t ow w ow' w'/\Below w.heap.size w w'/\zL B K (qW n v cap (zt v)) t ow' w'/\w.heap.size<=B
theorem zei(a:Addr)(n:Nat)(hn:1<=n/\n<=16)(v cap:Int)(hv:known v=true)(h1:64<=cap)(h2:cap<=1048576)(t:List Nat)(ow:Own)(w:World)(he:jE w a):
 Calls prog 9 #[.int .i64 (n:Nat),.int .i64 v,.int .i64 cap,.slice none 0 0] w (zjj n v cap t ow w):=by
 have hnew:=λ(i:Nat) hi ow W hW=>zi5 a i v cap (by omega) hi hv h1 h2 (t++ [i]) ow W hW
 have hmm:= @run_makeMap prog;have t1:decide ((n:Int)<1)=false:=by simp;omega
 have t2:decide (16<(n:Int))=false:=by simp;omega
 have y0:(0:Int)<=(n:Int):=by omega
 replace hnew:=hid hnew
 go_enter func9,ntmps9
 go_wp2_with fail
 refine xg [O 0] none zbC #[true,false,false,false,false,false,false,false] (m:=7) (by kernel_rfl) (by kernel_rfl) trivial ?_
 (repeat (refine zX (v:=?_) rfl rfl (λw' h=>?_) (λK k=>?_);rotate_left;obtain⟨f1,f2,f3,f4,f5,_⟩:=h;(try have e1:=f1.cell);(try have e2:=f2.cell);(try have e3:=f3.cell);(try have e4:=f4.cell);(try have e5:=f5.cell);go_simp;(try with_reducible rfl);go_simp;refine k _ ?_;clear k K))
 refine yh (λ_=>?_)
 refine zfU (m:=3) [1,2,3,4] (λi=>21+i) (λ_=>undef)
  (λi b=>match i with|1=>.slice (some ⟨b,0,none⟩) n n|2=>.map (some b)|3=>.pointer (some ⟨b,0,none⟩)|_=>.map (some b))
  (λi=>match i with|1=>.cells (JY n) 90|2=>.map #[] 0|3=>.cells #[.int .u32 0,.slice none 0 0] 122|_=>.map #[] 0) (by kernel_rfl) rfl ?_ ?_
 ·intro i hi g W
  rcases(by simpa using hi:i=1∨i=2∨i=3∨i=4)with rfl|rfl|rfl|rfl
  ·unfold frp
   simp only [List.foldl_cons,List.foldl_nil];go_simp;refine yF rfl (λJ hJ=>?_);have hms:=zfW n hn.2 W;go_wp2;exact hJ.out _ _ ⟨rfl,rfl⟩
  ·unfold frp
   simp only [List.foldl_cons,List.foldl_nil];go_simp;refine yF rfl (λJ hJ=>?_);go_wp2;exact hJ.out _ _ ⟨rfl,rfl⟩
  ·unfold frp
   simp only [List.foldl_cons,List.foldl_nil];go_simp;refine yF rfl (λJ hJ=>?_);go_wp2_with fail
   refine(zhr _).mono ?_;rintro e w1⟨rfl,rfl⟩;go_wp2;exact hJ.out _ _ ⟨rfl,rfl⟩
  ·unfold frp
   simp only [List.foldl_cons,List.foldl_nil];go_simp;refine yF rfl (λJ hJ=>?_);go_wp2;exact hJ.out _ _ ⟨rfl,rfl⟩
 intro h W hh hd hb0;obtain⟨sb,hsb⟩:∃x,h 1=x:=⟨_,rfl⟩;obtain⟨lm,hlm⟩:∃x,h 2=x:=⟨_,rfl⟩;obtain⟨fb,hfb⟩:∃x,h 3=x:=⟨_,rfl⟩;obtain⟨hm,hhm⟩:∃x,h 4=x:=⟨_,rfl⟩;have g1:=hh 1 (by simp);have g2:=hh 2 (by simp);have g3:=hh 3 (by simp);have g4:=hh 4 (by simp);have d12:=hd 1 (by simp) 2 (by simp) (by decide);have d13:=hd 1 (by simp) 3 (by simp) (by decide);have d14:=hd 1 (by simp) 4 (by simp) (by decide);have d23:=hd 2 (by simp) 3 (by simp) (by decide);have d24:=hd 2 (by simp) 4 (by simp) (by decide);have d34:=hd 3 (by simp) 4 (by simp) (by decide);simp only [hsb,hlm,hfb,hhm] at g1 g2 g3 g4 d12 d13 d14 d23 d24 d34;unfold frp;simp only [List.foldl_cons,List.foldl_nil,hsb,hlm,hfb,hhm];go_simp;clear hh hd hsb hlm hfb hhm h;refine qt [E 5,E 6,O 7] (by kernel_rfl) (λ_=>trivial) ?_;refine yB rfl (by simp) (λJ hJ=>?_);go_wp2;refine hJ.out _ _ trivial ?_;clear hJ J;refine yB rfl (by simp) (λJ hJ=>?_);go_wp2;refine hJ.out _ _ trivial ?_;clear hJ J
 (repeat (refine zX (v:=?_) rfl rfl (λw' h=>?_) (λK k=>?_);rotate_left;obtain⟨f1,f2,f3,f4,f5,_⟩:=h;(try have e1:=f1.cell);(try have e2:=f2.cell);(try have e3:=f3.cell);(try have e4:=f4.cell);(try have e5:=f5.cell);go_simp;(try with_reducible rfl);go_simp;refine k _ ?_;clear k K))
 refine yh ?_;obtain⟨W1,hW1⟩:∃x,x=W.alloc (.cells #[.slice none 0 0,.slice (some ⟨sb,0,none⟩) n n,.map (some lm),.pointer (some ⟨fb,0,none⟩),.map (some hm),.map none,.slice none 0 0] 65):=⟨_,rfl⟩;have hzw:w.drew.heap.size=w.heap.size:=rfl;have hbW:Below w.heap.size w W1:=by rw [hW1];exact zi (zg (zo (N2 _ _)) hb0) _
 have kB1:Blk W1 W.heap.size #[.slice none 0 0,.slice (some ⟨sb,0,none⟩) n n,.map (some lm),.pointer (some ⟨fb,0,none⟩),.map (some hm),.map none,.slice none 0 0] 65:=by rw [hW1];exact Blk.new rfl
 have hold:∀k o,W.heap[k]?=some o->W1.heap[k]?=some o:=λk o hk=>by rw [hW1];exact(U4 W _ _ (N5.1 hk).1).trans hk
 have hlt:∀k o,W.heap[k]?=some o->k<W.heap.size:=λk o hk=>(N5.1 hk).1
 have q1:=hlt _ _ g1.1;have q2:=hlt _ _ g2.1;have q3:=hlt _ _ g3.1;have q4:=hlt _ _ g4.1;have hbz:=hb0.size;rw [← hW1];obtain⟨ow1,how1⟩:∃f:Own,f=λk=>if k<w.heap.size then ow k else if k=W.heap.size then t else if k=sb then t++ [21] else if k=lm then t++ [17] else if k=fb then t++ [16] else if k=hm then t++ [18] else []:=⟨_,rfl⟩
 have hst1:zq t ow w ow1 W1:=⟨Mod.of_below _ hbW,λk hk=>by rw [how1];simp only [if_pos hk]⟩
 have hH1:JZ W.heap.size sb lm fb hm n v cap (.slice none 0 0) [] t ow1 W1:=by
  have n1:¬W.heap.size<w.heap.size:=by omega
  have n2:¬sb<w.heap.size:=by omega
  have n3:¬lm<w.heap.size:=by omega
  have n4:¬fb<w.heap.size:=by omega
  have n5:¬hm<w.heap.size:=by omega
  refine⟨kB1,?_,z7 _ _ _,λg hg=>(by cases hg),λi b hb=>(by simp at hb),hold _ _ g1.1,?_,?_,?_,?_,?_,?_⟩
  ·rw [how1];simp only [if_neg n1,if_true]
  ·rw [how1];simp only [if_neg n2,if_neg (show¬sb=W.heap.size by omega),if_true]
  ·exact⟨#[],0,hold _ _ g2.1,rfl,by simp,by simp⟩
  ·rw [how1];simp only [if_neg n3,if_neg (show¬lm=W.heap.size by omega),if_neg (Ne.symm d12),if_true]
  ·exact⟨#[],0,hold _ _ g4.1,rfl,by simp,by simp⟩
  ·rw [how1];simp only [if_neg n5,if_neg (show¬hm=W.heap.size by omega),if_neg (Ne.symm d14),if_neg (Ne.symm d24),if_neg (Ne.symm d34),if_true]
  ·refine⟨.slice none 0 0,hold _ _ g3.1,⟨rfl,.inl ⟨rfl,rfl⟩⟩,?_,λg hg=>(by cases hg)⟩
   rw [how1];simp only [if_neg n4,if_neg (show¬fb=W.heap.size by omega),if_neg (Ne.symm d13),if_neg (Ne.symm d23),if_true]
 have hBw:w.heap.size<=W.heap.size:=by omega
 have hel:=he.lt
 generalize W.heap.size=B at*
 clear hold hlt g1 g2 g3 g4 q1 q2 q3 q4 d12 d13 d14 d23 d24 d34 hW1 hb0 how1 hbz kB1;go_wp2
 go_loopw [29] (λp29 wr=>∃(nl:List Nat)(nv:Value)(ow':Own),p29=.int .i64 (nl.length:Nat)/\nl.length<=n/\zq t ow w ow' wr/\Below w.heap.size w wr/\(∀g,nv.ownBlock=some g->w.heap.size<=g)/\JZ B sb lm fb hm n v cap nv nl t ow' wr) (λp29 _=>n - (intOf p29).toNat)
 case atStart=>exact⟨[],.slice none 0 0,ow1,rfl,Nat.zero_le _,hst1,hbW,λg hg=>(by cases hg),hH1⟩
 case round=>
  obtain⟨nl,nv,ow',rfl,hjn,hst,hbw,hng,hH⟩:=hrel;clear hH1 hst1 hbW;obtain⟨j,hj⟩:∃j,nl.length=j:=⟨_,rfl⟩;rw [hj] at hjn⊢
  by_cases hjN:j<n
  ·have t3:decide ((j:Int)<(n:Int))=true:=by simpa using hjN
   have t4:decide ((j:Int)<0)=false:=by simp
   have hwj:IntKind.i64.wrap ((j:Int)+1)=(j:Int)+1:=by rw [N8];omega
   have hnw:=hnew.out j (by omega) ow' _ (he.below hbw hel);replace hnw:=hid hnw;replace hj:=hid hj;replace hH:=hid hH;replace hng:=hid hng;go_wp2_with fail
   refine hnw.out.mono ?_;rintro e w2⟨b,ow2,rfl,hs2,hb2,hN2,hge2⟩;have hH2:JZ B sb lm fb hm n v cap nv nl t ow2 w2:=JZ.loc _ _ _ _ _ _ _ _ _ _ _ _ _ _ _ hH.out hb2.size (λk hk _=>⟨hs2.agree k hk,hb2.block k hk⟩);have hb3:Below w2.heap.size w2 (w2.alloc (.cells #[.pointer (some ⟨b,0,none⟩)] 43)):=zi (N2 _ _) _;have k3:Blk (w2.alloc (.cells #[.pointer (some ⟨b,0,none⟩)] 43)) w2.heap.size #[.pointer (some ⟨b,0,none⟩)] 43:=Blk.new rfl;have hsrc3:Src (w2.alloc (.cells #[.pointer (some ⟨b,0,none⟩)] 43)) (.slice (some ⟨w2.heap.size,0,none⟩) 1 1) 1 [b].length (vu [b]):=jM (n:=1) (size:=1) (cap:=1) k3 rfl (N0 1);have hH3:=(JZ.loc B sb lm fb hm n v cap nv nl t).cut hH2 hb3;have hN3:=(jC.loc b _ _).cut hN2 hb3;obtain⟨nv',W7,hrun,hrow,hgr,hown⟩:=zT zk0 hH3.row hsrc3 (zb1 _) (by rw [hj.out];simp;omega) 62
   have hrow':Row W7 43 1 nv' (nl++ [b]).length (vu (nl++ [b])):=by
    rw [N1,show vu (nl++ [b])=vu nl++vu [b] by unfold vu;simp];exact hrow
   have hN3':=hN3;rw [← hj.out] at hN3';obtain⟨hs8,hH8⟩:=hH3.push hN3' (by rw [hj.out];omega) hrow' hgr hown;have hb7:Below w.heap.size w W7:=(zg (zg hbw hb2) hb3).grown hgr (by have:=hb2.size;have:=hbw.size;simp;omega) (λk hk=>hng.out k hk)
   have hng':∀g,nv'.ownBlock=some g->w.heap.size<=g:=λg hg=>by
    rw [hg] at hown
    rcases hown with h|h
    ·exact hng.out g h.symm
    ·have:=hb2.size;have:=hbw.size;simp at h;omega
   have hz8:=hbw.size;have hz9:=hb2.size;have hz7:=hH3.row.ne_blk hH3.blk (by decide) (g:=B);have kB7:=hH3.blk.kept (w':=W7) (hgr.block B hH3.blk.lt (λe=>hz7 e.symm rfl));have c20:=hH2.blk.cell 0;have c70:=kB7.cell 0;have f7:=kB7.frozen;have l7:=kB7.lt;obtain⟨na,nc,rfl⟩:=hH3.row.wideV.shape;obtain⟨na',nc',rfl⟩:=hrow'.wideV.shape;simp only [N1,U2] at hs8 hH8 hng' hrun;replace hH2:=hid hH2;replace hH3:=hid hH3;replace hH8:=hid hH8;replace hng':=hid hng';replace hrow':=hid hrow';replace hrow:=hid hrow;replace hgr:=hid hgr;replace hown:=hid hown;replace hN2:=hid hN2;replace hN3:=hid hN3;replace hN3':=hid hN3';replace hrun:=hid hrun;replace hs8:=hid hs8
   go_wp2_with (at_builtin
                refine zw rfl _ _ _ rfl rfl rfl hrun.out ?_)
   go_roundw
   case rel=>exact⟨nl++ [b],_,_,by simp [hj.out],by simp [hj.out];omega,(hst.trans (hs2.mono (Sub.child t j))).trans (zq.wrap hb3 hs8.out),zn hb7 hBw _,hng'.out,hH8.out⟩
   case measure=>simp [intOf];omega
  ·obtain rfl:n=j:=by omega
   have t3:decide ((n:Int)<(n:Int))=false:=by simp
   replace hH:=hid hH;replace hng:=hid hng;replace hj:=hid hj;go_wp2_with fail
   refine(zfT B _).mono ?_;rintro e w8⟨rfl,hb8,kX8,hM8⟩;have hH8:JZ B sb lm fb hm n v cap nv nl t (ow'.ext wr.heap.size (λk=>k=wr.heap.size∨k=wr.heap.size+1) (t++ [19])) w8:=JZ.loc _ _ _ _ _ _ _ _ _ _ _ _ _ _ _ hH.out hb8.size (λk hk _=>⟨Own.ext_old hk,hb8.block k hk⟩);have c8:=hH8.blk.cell 5;have f8:=hH8.blk.frozen;have l8:=hH8.blk.lt;obtain⟨hs9,K,hW9⟩:=hH8.done hj.out hn.1 hn.2 kX8 hM8 (Own.ext_new (by omega) (.inl rfl)) (Own.ext_new (by omega) (.inr rfl));replace hH8:=hid hH8;go_wp2;go_ret2
   exact⟨B,K,_,rfl,(hst.trans ⟨Mod.of_below _ hb8,λk hk=>Own.ext_old hk⟩).trans hs9,zn (zg hbw hb8) hBw _,hW9,hBw⟩
variable {B:Nat}{K:WK}{tv:Value}{lp:Nat->Option Nat}{S:zf}{v:Int}{k0 L:Nat}{t:List Nat}{ow:Own}{w:World}
theorem zjk(l:List zp)(f:zp->Bool){k:Nat}{x:zp}(hx:l[k]?=some x):(l.take (k+1)).any f=((l.take k).any f||f x):=by
 rw [List.take_add_one,hx];simp
theorem Xr {i:Nat}(hi:i<S.nodes.length):S.nodes[i]?=some (zr S i):=by
 unfold zr;rw [N3 hi];rfl
theorem zej(hG:zu v k0 L S)(i:Nat)(hi:i<S.nodes.length)(h:zk B K tv lp S t ow w):
 Calls prog 67 #[.pointer (some ⟨B,0,none⟩),.int .i64 (i:Nat)] w λe w'=>e=.returned (.bool (zec S i))/\Below w.heap.size w w':=by
 have hn16:=hG.n0;have hB:=h.blk;have e0:=hB.cell;have l0:=hB.lt;have y0:(0:Int)<=(i:Int):=by omega
 have y1:(i:Int)<(S.nodes.length:Int):=by omega
 have hnx:∀j,j<S.nodes.length->∃b,K.nl[j]?=some b/\w.cell? ⟨K.nb,j,none⟩=some (.pointer (some ⟨b,0,none⟩))/\∀W,Below w.heap.size w W->Calls prog 97 #[.pointer (some ⟨b,0,none⟩)] W λe w'=>e=.returned (.int .i64 (yy (zr S j):Nat))/\Below W.heap.size W w':=by
  intro j hj;obtain⟨b,hnb,px,sb,lb,pb,av,hN⟩:=h.node (by omega) (hG.node hj).1;refine⟨b,hnb,h.nodeCell hnb,λW hW=>?_⟩;have hNG:=(hG.node hj).2;exact zbw (px:=px) (sb:=sb) (lb:=lb) (pb:=pb) (av:=av) b (zr S j) (t++ [j]) (by simp) ow W ((zx.loc _ _ _ _ _ _ _ _).below hN hW) hNG.ok.bounds.2.2.1 hNG.known
 obtain⟨b,hnb,hc0,hni⟩:=hnx i hi
 have hpr:∀W,Below w.heap.size w W->Calls prog 96 #[.pointer (some ⟨b,0,none⟩)] W λr w'=>r=.returned (okV (jP (zr S i)))/\Below W.heap.size W w':=by
  intro W hW;obtain⟨b',hnb',px,sb,lb,pb,av,hN⟩:=h.node (by omega) (hG.node hi).1;obtain rfl:b'=b:=by rw [hnb] at hnb';exact(Option.some.inj hnb').symm
  exact JN (px:=px) (sb:=sb) (lb:=lb) (pb:=pb) (av:=av) b' (zr S i) (t++ [i]) ow W ((zx.loc _ _ _ _ _ _ _ _).below hN hW) (hG.eraLen hi)
 have hdu:zec S i=((jP (zr S i)).2||S.nodes.any λn=>decide (yy (zr S i)<yy n)):=rfl;obtain⟨⟨pv,pok⟩,hpp⟩:∃q,jP (zr S i)=q:=⟨_,rfl⟩;obtain⟨nx,hnxe⟩:∃n,yy (zr S i)=n:=⟨_,rfl⟩;rw [hpp] at hpr hdu;rw [hnxe] at hni hdu;unfold okV at hpr;simp only at hdu;rw [hdu];replace hpr:=hid hpr;replace hni:=hid hni;replace hnx:=hid hnx;replace hpp:=hid hpp;replace hnxe:=hid hnxe;replace hdu:=hid hdu;replace hnb:=hid hnb;clear h
 cases pok with
 |true=>
  go_enter func67,ntmps67
  go_wp2_with fail
  refine(hpr.out _ (N2 _ _)).mono ?_;rintro e w1⟨rfl,hb1⟩;go_wp2;go_ret
  exact⟨rfl,hb1⟩
 |false=>
  simp only [Bool.false_or]
  go_enter func67,ntmps67
  go_wp2_with fail
  refine(hpr.out _ (N2 _ _)).mono ?_;rintro e w1⟨rfl,hb1⟩;have e1:=(hB.call hb1).cell;have c1:w1.cell? ⟨K.nb,i,none⟩=some (.pointer (some ⟨b,0,none⟩)):=(hb1.cell (jH hc0)).trans hc0;clear e0;go_wp2_with fail
  refine(hni.out _ hb1).mono ?_;rintro e w2⟨rfl,hb2⟩;have hb02:=zg hb1 hb2;have e2:=(hB.call hb02).cell;clear e1 c1;go_wp2
  go_loopw [35] (λp35 wr=>∃j:Nat,p35=.int .i64 (j:Nat)/\j<=S.nodes.length/\Below w.heap.size w wr/\(S.nodes.take j).any (λn=>decide (nx<yy n))=false) (λp35 _=>S.nodes.length - (intOf p35).toNat)
  case atStart=>exact⟨0,rfl,Nat.zero_le _,hb02,by simp⟩
  case round=>
   obtain⟨j,rfl,hj,hbr,hno⟩:=hrel;clear e2
   by_cases hjN:j<S.nodes.length
   ·have t2:decide ((j:Int)<(S.nodes.length:Int))=true:=by simpa using hjN
    have y2:(0:Int)<=(j:Int):=by omega
    have y3:(j:Int)<(S.nodes.length:Int):=by omega
    have hwj:IntKind.i64.wrap ((j:Int)+1)=(j:Int)+1:=by rw [N8];omega
    obtain⟨bj, -,hcj,hnj⟩:=hnx.out j hjN;have cj:wr.cell? ⟨K.nb,j,none⟩=some (.pointer (some ⟨bj,0,none⟩)):=(hbr.cell (jH hcj)).trans hcj;have htk:=zjk S.nodes (λn=>decide (nx<yy n)) (Xr hjN);rw [hno,Bool.false_or] at htk;replace hnj:=hid hnj;replace hno:=hid hno
    cases hlt:decide (nx<yy (zr S j))with
    |true=>
     have t4:decide ((nx:Int)<(yy (zr S j):Int))=true:=by simpa using hlt
     have hall:S.nodes.any (λn=>decide (nx<yy n))=true:=List.any_eq_true.2 ⟨_,List.mem_of_getElem? (Xr hjN),hlt⟩;replace htk:=hid htk;replace hall:=hid hall;go_wp2_with fail
     refine(hnj.out _ hbr).mono ?_;rintro e w3⟨rfl,hb3⟩;go_wp2;go_ret
     exact⟨by rw [hall.out];rfl,zg hbr hb3⟩
    |false=>
     have t4:decide ((nx:Int)<(yy (zr S j):Int))=false:=by simpa using hlt
     rw [hlt] at htk;replace htk:=hid htk;go_wp2_with fail
     refine(hnj.out _ hbr).mono ?_;rintro e w3⟨rfl,hb3⟩;go_wp2
     go_roundw
     case rel=>exact⟨j+1,by simp,by omega,zg hbr hb3,htk.out⟩
     case measure=>simp [intOf];omega
   ·obtain rfl:j=S.nodes.length:=by omega
    have t2:decide ((S.nodes.length:Int)<(S.nodes.length:Int))=false:=by simp
    rw [List.take_length] at hno;replace hno:=hid hno;go_wp2;go_ret
    exact⟨by rw [hno.out];rfl,hbr⟩
def zhO(S:zf)(i:Nat):Bool:= !(zr S i).down && !zec S i
theorem XX(f:Nat->Bool)(j:Nat):(List.range (j+1)).all f=((List.range j).all f && f j):=by
 rw [List.range_succ];simp
theorem Xs(f:Nat->Bool){n j:Nat}(hj:j<n)(h:f j=false):(List.range n).all f=false:=by
 rw [List.all_eq_false];exact⟨j,List.mem_range.2 hj,by simp [h]⟩
theorem zfX(hG:zu v k0 L S)(h:zk B K tv lp S t ow w):
 Calls prog 27 #[.pointer (some ⟨B,0,none⟩)] w λe w'=>e=.returned (.bool (qs S))/\Below w.heap.size w w':=by
 have hn16:=hG.n0;have hB:=h.blk;have e0:=hB.cell;have hfl:=Ja w h hG.notesN
 have hdn:∀j,j<S.nodes.length->∃b,w.cell? ⟨K.nb,j,none⟩=some (.pointer (some ⟨b,0,none⟩))/\∀W,Below w.heap.size w W->Calls prog 66 #[.pointer (some ⟨b,0,none⟩)] W λe w'=>e=.returned (.bool (zr S j).down)/\w'=W:=by
  intro j hj;obtain⟨b,hnb,px,sb,lb,pb,av,hN⟩:=h.node (by omega) (hG.node hj).1;exact⟨b,h.nodeCell hnb,λW hW=>qL (px:=px) (sb:=sb) (lb:=lb) (pb:=pb) (av:=av) (n:=zr S j) (B:=b) W (hN.blk.call hW)⟩
 have hdu:=λ(j:Nat) hj W (hW:Below w.heap.size w W)=>zej hG j hj ((zk.loc B K tv lp S t).below h hW)
 have hrs:qs S=(S.notes.isEmpty &&(List.range S.nodes.length).all (zhO S)):=rfl;rw [hrs];obtain⟨eb,heb⟩:∃b,S.notes.isEmpty=b:=⟨_,rfl⟩
 have t0:((S.notes.length:Int)==0)=eb:=by
  rw [← heb]
  cases S.notes with
  |nil=>rfl
  |cons x l=>simp;omega
 rw [heb];replace hfl:=hid hfl;replace hdn:=hid hdn;replace hdu:=hid hdu;replace hrs:=hid hrs;replace heb:=hid heb;clear h;refine zl func27 rfl ?_;simp only [ntmps27,R8,Nat.reduceAdd,Nat.reduceSub];go_wp2;go_step3;go_wp2_with fail
 refine hfl.out.mono ?_;rintro e w1⟨rfl,hb1⟩;go_wp2;go_step3;have e1:=(hB.call hb1).cell;clear e0;go_wp2
 go_loopw [14,3] (λp14 p3 wr=>∃j:Nat,p14=.int .i64 (j:Nat)/\p3=.bool eb/\j<=S.nodes.length/\Below w.heap.size w wr/\(List.range j).all (zhO S)=true) (λp14 _ _=>S.nodes.length - (intOf p14).toNat)
 case atStart=>exact⟨0,rfl,rfl,Nat.zero_le _,hb1,by simp⟩
 case round=>
  obtain⟨j,rfl,rfl,hj,hbr,hall⟩:=hrel;clear e1
  by_cases hjN:j<S.nodes.length
  ·have t2:decide ((j:Int)<(S.nodes.length:Int))=true:=by simpa using hjN
   have y2:(0:Int)<=(j:Int):=by omega
   have y3:(j:Int)<(S.nodes.length:Int):=by omega
   have hwj:IntKind.i64.wrap ((j:Int)+1)=(j:Int)+1:=by rw [N8];omega
   obtain⟨bj,hcj,hdj⟩:=hdn.out j hjN;have cj:wr.cell? ⟨K.nb,j,none⟩=some (.pointer (some ⟨bj,0,none⟩)):=(hbr.cell (jH hcj)).trans hcj;have htk:=XX (zhO S) j;rw [hall,Bool.true_and] at htk;have hne:=Xs (zhO S) hjN;have hcw:zhO S j=(!(zr S j).down && !zec S j):=rfl;replace hdj:=hid hdj;replace hall:=hid hall
   cases hd:(zr S j).down with
   |true=>
    have hne:=hne (by rw [hcw,hd];rfl);rw [hd] at hdj;replace hne:=hid hne;replace htk:=hid htk;replace hcw:=hid hcw;replace hd:=hid hd;go_wp2_with fail
    refine(hdj.out _ hbr).mono ?_;rintro e w3⟨rfl,hw3⟩;obtain rfl:=hw3.symm;go_wp2;rw [Exit.noGoto_ret];exact jI (v:=.bool false) (by simp [results,Tryz.results27,go_sem]) ⟨by rw [hne.out];simp,hbr⟩
   |false=>
    rw [hd] at hdj
    cases hu:zec S j with
    |true=>
     have hne:=hne (by rw [hcw,hd,hu];rfl);have hdu2:=hdu.out j hjN _ hbr;rw [hu] at hdu2;replace hdu2:=hid hdu2;replace hne:=hid hne;replace htk:=hid htk;replace hcw:=hid hcw;replace hd:=hid hd;replace hu:=hid hu;go_wp2_with fail
     refine(hdj.out _ hbr).mono ?_;rintro e w3⟨rfl,hw3⟩;obtain rfl:=hw3.symm;go_wp2_with fail
     refine hdu2.out.mono ?_;rintro e w3⟨rfl,hb3⟩;go_wp2;rw [Exit.noGoto_ret];exact jI (v:=.bool false) (by simp [results,Tryz.results27,go_sem]) ⟨by rw [hne.out];simp,zg hbr hb3⟩
    |false=>
     rw [hcw,hd,hu] at htk;have hdu2:=hdu.out j hjN _ hbr;rw [hu] at hdu2;replace hdu2:=hid hdu2;replace htk:=hid htk;replace hcw:=hid hcw;replace hd:=hid hd;replace hu:=hid hu;go_wp2_with fail
     refine(hdj.out _ hbr).mono ?_;rintro e w3⟨rfl,hw3⟩;obtain rfl:=hw3.symm;go_wp2_with fail
     refine hdu2.out.mono ?_;rintro e w3⟨rfl,hb3⟩;go_wp2
     go_roundw
     case rel=>exact⟨j+1,by simp,rfl,by omega,zg hbr hb3,htk.out⟩
     case measure=>simp [intOf];omega
  ·obtain rfl:j=S.nodes.length:=by omega
   have t2:decide ((S.nodes.length:Int)<(S.nodes.length:Int))=false:=by simp
   replace hall:=hid hall;go_wp2;rw [Exit.noGoto_ret];exact jI (v:=.bool eb) (by simp [results,Tryz.results27,go_sem]) ⟨by rw [hall.out];simp,hbr⟩
