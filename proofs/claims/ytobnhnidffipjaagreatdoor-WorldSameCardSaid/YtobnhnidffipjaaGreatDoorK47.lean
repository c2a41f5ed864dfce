/- PARTS OF THE PROOF. -/
import Derived.Test.YtobnhnidffipjaaGreatDoorK34
import Derived.Test.YtobnhnidffipjaaGreatDoorK46
set_option maxRecDepth 8000
set_option maxHeartbeats 4000000
open Go.Proofs.Tryz
namespace Go.Proofs.YtobnhnidffipjaaGreatDoor
section
open Go Go.RowKit
variable {P:Program}{ops:Array Oper}{Q:Exit->Act->World->Prop}
theorem zan {m:Nat}{listed:Array Bool}(R:List Nat)(fr:(Nat->Value)->Act)(g0:Nat->Value)(vf:Nat->Nat->Value)(obj:Nat->Obj)(W0:World)(hok:zc6 ops listed R=true)
 (hrun:∀i∈R,∀g W,wpOp P ops (λ_ _ _=>False) i (λa' w'=>a'=fr (λj=>if j=i then vf i W.heap.size else g j)/\w'=W.alloc (obj i)) (fr g) W)
 (hend:∀(h:Nat->Nat) W,(∀i∈R,W.heap[h i]?=some (obj i)/\W0.heap.size<=h i)->(∀i∈R,∀j∈R,i≠j->h i≠h j)->Below W0.heap.size W0 W->yw P ops (jd Q) zas none m (zfy listed R []) (fr λi=>vf i (h i)) W):
 ∀(n:Nat)(rest:List Nat)(W:World)(h:Nat->Nat),rest.length=n->rest∈zac R->(∀i∈R,i∉rest->W.heap[h i]?=some (obj i)/\W0.heap.size<=h i)->(∀i∈R,i∉rest->∀j∈R,j∉rest->i≠j->h i≠h j)->Below W0.heap.size W0 W->yw P ops (jd Q) zas none (n+m) (zfy listed R rest) (fr λi=>if i∈rest then g0 i else vf i (h i)) W:=by
 intro n
 induction n with
 |zero=>
  intro rest W h hl hs hR hd hb;obtain rfl:=N9 hl;rw [Nat.zero_add];simp only [List.not_mem_nil,if_false];exact hend h W (λi hi=>hR i hi (by simp)) (λi hi j hj=>hd i hi (by simp) j hj (by simp)) hb
 |succ n ih=>
  intro rest W g hl hs hR hd hb;have h1:=hok;unfold zc6 at h1;rw [List.all_eq_true] at h1;have h2:=h1 rest hs;rw [Bool.or_eq_true] at h2
  rcases h2 with h2|h2
  ·have:rest=[]:=by simpa using h2
   subst this;simp at hl
  ·simp only [Bool.and_eq_true,decide_eq_true_eq,List.all_eq_true] at h2
   obtain⟨h3,h4⟩:=h2;rw [show n+1+m=(n+m)+1 by omega];refine⟨λh0=>(by rw [h3] at h0;subst h0;simp at hl),λi hi=>?_⟩;rw [h3] at hi;obtain⟨⟨⟨h5,h6⟩,h7⟩,h8⟩:=h4 i hi;have hiR:i∈R:=by simpa using h5
   refine vW (wpOp_mono (λa' w' h=>?_) (hrun i hiR _ W));obtain⟨rfl,rfl⟩:=h;refine⟨λ_=>trivial,?_⟩;rw [h6];have hold:∀j∈R,j∉rest.filter (· !=i)->j≠i->j∉rest:=λj hj hjn hji h=>hjn (by simp [h,hji])
   have hfn:(λj=>if j=i then vf i W.heap.size else if j∈rest then g0 j else vf j (g j))=λj=>if j∈rest.filter (· !=i)then g0 j else vf j (if j=i then W.heap.size else g j):=by
    funext j
    by_cases hji:j=i
    ·subst hji;simp
    ·by_cases hjr:j∈rest<;>simp [hji,hjr]
   rw [hfn];refine ih _ _ _ (by omega) (by simpa using h7) (λj hj hjn=>?_) (λj hj hjn j' hj' hjn' hne=>?_) (hb.alloc hb.size _)
   ·by_cases hji:j=i
    ·subst hji
     simp only [if_true];exact⟨World.alloc_heap_new W _,hb.size⟩
    ·simp only [if_neg hji]
     have h:=hR j hj (hold j hj hjn hji);exact⟨(U4 W _ _ (N5.1 h.1).1).trans h.1,h.2⟩
   ·have hlt:∀x∈R,x∉rest->g x<W.heap.size:=λx hx hxr=>(N5.1 (hR x hx hxr).1).1
    by_cases hji:j=i
    ·subst hji
     simp only [if_true,if_neg (Ne.symm hne)];have:=hlt j' hj' (hold j' hj' hjn' (Ne.symm hne));omega
    ·by_cases hji':j'=i
     ·subst hji'
      simp only [if_true,if_neg hji];have:=hlt j hj (hold j hj hjn hji);omega
     ·simp only [if_neg hji,if_neg hji']
      exact hd j hj (hold j hj hjn hji) j' hj' (hold j' hj' hjn' hji') hne
theorem zhA {m:Nat}{listed:Array Bool}{w:World}(R:List Nat)(fr:(Nat->Value)->Act)(g0:Nat->Value)(vf:Nat->Nat->Value)(obj:Nat->Obj)(hok:(zc6 ops listed R && decide (R∈zac R)&& decide (zfy listed R R=listed))=true)(hfr:∀g g',(∀i∈R,g i=g' i)->fr g=fr g')
 (hrun:∀i∈R,∀g W,wpOp P ops (λ_ _ _=>False) i (λa' w'=>a'=fr (λj=>if j=i then vf i W.heap.size else g j)/\w'=W.alloc (obj i)) (fr g) W)
 (hend:∀(h:Nat->Nat) W,(∀i∈R,W.heap[h i]?=some (obj i)/\w.heap.size<=h i)->(∀i∈R,∀j∈R,i≠j->h i≠h j)->Below w.heap.size w W->yw P ops (jd Q) zas none m (zfy listed R []) (fr λi=>vf i (h i)) W):yw P ops (jd Q) zas none (R.length+m) listed (fr g0) w:=by
 simp only [Bool.and_eq_true,decide_eq_true_eq] at hok;obtain⟨⟨h1,h2⟩,h3⟩:=hok;have:=zan R fr g0 vf obj w h1 hrun hend R.length R w (λ_=>0) rfl h2 (λi hi hn=>absurd hi hn) (λi hi hn=>absurd hi hn) (N2 _ _);rw [h3,hfr (λi=>if i∈R then g0 i else vf i 0) g0 (λi hi=>by simp [hi])] at this;exact this
def frp(a:Act)(d:Nat->Nat)(R:List Nat)(g:Nat->Value):Act:={a with tmps:=R.foldl (λt i=>t.setIfInBounds (d i) (g i)) a.tmps}
theorem zhB(a:Act)(d:Nat->Nat)(R:List Nat)(g g':Nat->Value)(h:∀i∈R,g i=g' i):frp a d R g=frp a d R g':=by
 unfold frp
 congr 1
 generalize a.tmps=t
 induction R generalizing t with
 |nil=>rfl
 |cons i R ih=>rw [List.foldl_cons,List.foldl_cons,h i (by simp)];exact ih (λj hj=>h j (by simp [hj])) _
theorem Qx {m:Nat}{listed:Array Bool}{a:Act}{w:World}(R:List Nat)(d:Nat->Nat)(g0:Nat->Value)(vf:Nat->Nat->Value)(obj:Nat->Obj)(hok:(zc6 ops listed R && decide (R∈zac R)&& decide (zfy listed R R=listed))=true)(h0:frp a d R g0=a)
 (hrun:∀i∈R,∀g W,wpOp P ops (λ_ _ _=>False) i (λa' w'=>a'=frp a d R (λj=>if j=i then vf i W.heap.size else g j)/\w'=W.alloc (obj i)) (frp a d R g) W)
 (hend:∀(h:Nat->Nat) W,(∀i∈R,W.heap[h i]?=some (obj i)/\w.heap.size<=h i)->(∀i∈R,∀j∈R,i≠j->h i≠h j)->Below w.heap.size w W->yw P ops (jd Q) zas none m (zfy listed R []) (frp a d R λi=>vf i (h i)) W):yw P ops (jd Q) zas none (R.length+m) listed a w:=by
 have:=zhA R (frp a d R) g0 vf obj hok (zhB a d R) hrun hend
 rwa [h0] at this
end
open Go Go.RowKit Go.Shelf Go.Extern.Stop Go.Stop Go.Extern
attribute [local go_sem] Oper.semAt_some zw zm
theorem zkl:Yf prog 65 48 1 8 (.pointer none):=⟨Tryz.underlying65,by kernel_rfl,rfl,by decide,by decide⟩
theorem zb0(l:List Nat):∀u∈vk l,u.oneCell'=true:=by
 intro u hu;obtain⟨m,_,rfl⟩:=List.mem_map.1 hu;rfl
def Zx(n:Nat):Array Value:=((List.replicate n zc1).flatMap jR).toArray
theorem zja:Yf prog 66 86 5 32 (.agg #[.int .u64 0,.int .i64 0,.int .i64 0,.bool false,.bool false]):=⟨Tryz.underlying66,by kernel_rfl,rfl,by decide,by decide⟩
theorem zfT(n:Nat)(hn:n<=16):madeCells #[.int .u64 0,.int .i64 0,.int .i64 0,.bool false,.bool false] (n*5)=Zx n:=by
 rcases(by omega:n=0∨n=1∨n=2∨n=3∨n=4∨n=5∨n=6∨n=7∨n=8∨n=9∨n=10∨n=11∨n=12∨n=13∨n=14∨n=15∨n=16)with rfl|rfl|rfl|rfl|rfl|rfl|rfl|rfl|rfl|rfl|rfl|rfl|rfl|rfl|rfl|rfl|rfl<;>kernel_rfl
theorem Qy(n:Nat)(hn:n<=16)(W:World):(Instr.makeSlice 66 (.int .i64 (n:Nat)) (.int .i64 (n:Nat))).run prog W=.ok (.slice (some ⟨W.heap.size,0,none⟩) n n) (W.alloc (.cells (Zx n) 86)):=by
 obtain⟨i,hi,hz0,hz1,hz2⟩:=info_parts zja.info;have h:=run_makeSlice (P:=prog) (w:=W) 66 86 i _ zja.under hi hz0 .i64 .i64 (n:Nat) (n:Nat) (by omega) (Int.le_refl _) (by rw [hz1];omega) (by rw [hz2];omega) (by omega);simp only [Int.toNat_natCast,hz1] at h;rw [h,← zfT n hn];rfl
structure Yd(B sb lm fb hm n:Nat)(v cap:Int)(nv:Value)(nl:List Nat)(t:List Nat)(ow:Own)(W:World):Prop where
 blk:Blk W B #[nv,.slice (some ⟨sb,0,none⟩) n n,.map (some lm),.pointer (some ⟨fb,0,none⟩),.map (some hm),.map none,.slice none 0 0] 72
 own:ow B=t
 row:Row W 48 1 nv nl.length (vk nl)
 rown:∀g,nv.ownBlock=some g->ow g=t++ [20]
 nodes:∀(i:Nat) b,nl[i]?=some b->jq b (zhL i v cap [] (zo v)) (t++ [i]) ow W
 sk:Blk W sb (Zx n) 86
 so:ow sb=t++ [21]
 lk:zU W lm Yz []
 lo:ow lm=t++ [17]
 hk:zU W hm Qq []
 ho:ow hm=t++ [18]
 fl:jg fb 0 [] (t++ [16]) ow W
theorem Yd.loc(B sb lm fb hm n:Nat)(v cap:Int)(nv:Value)(nl:List Nat)(t:List Nat):yJ t (Yd B sb lm fb hm n v cap nv nl t):=by
 intro ow ow' W W' h hs hk;have kk:∀k i,k<W.heap.size->ow k=t++ [i] ->ow' k=ow k/\W'.heap[k]?=W.heap[k]?:=λk i h1 h2=>hk k h1 (by rw [h2];exact Sub.child t i)
 have kB:=hk B h.blk.lt (by rw [h.own];exact Sub.rfl' t);have ks:=kk sb 21 h.sk.lt h.so;have kl:=kk lm 17 h.lk.lt h.lo;have kh:=kk hm 18 h.hk.lt h.ho;have kr:=λg hg=>kk g 20 (h.row.lt hg) (h.rown g hg)
 exact⟨h.blk.kept kB.2,kB.1.trans h.own,h.row.kept (λg hg=>(kr g hg).2),λg hg=>(kr g hg).1.trans (h.rown g hg),
  λi b hb=>jq.loc _ _ _ _ _ _ _ (h.nodes i b hb) hs (λk h1 h2=>hk k h1 ((Sub.child t i).trans h2)),
  h.sk.kept ks.2,ks.1.trans h.so,h.lk.kept kl.2,kl.1.trans h.lo,h.hk.kept kh.2,kh.1.trans h.ho,jg.loc _ _ _ _ _ _ _ _ h.fl hs (λk h1 h2=>hk k h1 ((Sub.child t 16).trans h2))⟩
theorem Yd.push {B sb lm fb hm n:Nat}{v cap:Int}{nv nv':Value}{nl:List Nat}{t:List Nat}{ow:Own}{W W7:World}(h:Yd B sb lm fb hm n v cap nv nl t ow W){b:Nat}(hN:jq b (zhL nl.length v cap [] (zo v)) (t++ [nl.length]) ow W)(hl:nl.length<16)
 (hrow:Row W7 48 1 nv' (nl++ [b]).length (vk (nl++ [b]))) (hgr:W.grownBy W7 nv.ownBlock) (hown:nv'.ownBlock=nv.ownBlock∨nv'.ownBlock=some W.heap.size):
 zq t ow W (ow.ext W.heap.size (λk=>nv'.ownBlock=some k) (t++ [20])) (W7.setCell ⟨B,0,none⟩ nv')/\Yd B sb lm fb hm n v cap nv' (nl++ [b]) t (ow.ext W.heap.size (λk=>nv'.ownBlock=some k) (t++ [20])) (W7.setCell ⟨B,0,none⟩ nv'):=by
 have hneB:∀g,nv.ownBlock=some g->g≠B:=λg hg=>h.row.ne_blk h.blk (by decide) hg
 have lB:=h.blk.lt
 have hg5:∀g,nv'.ownBlock=some g->(nv.ownBlock=some g∨g=W.heap.size):=λg hg=>by
  rw [hg] at hown
  rcases hown with h|h
  ·exact .inl h.symm
  ·right;simpa using h
 have k7:=h.blk.kept (w':=W7) (hgr.block B lB (λe=>hneB B e.symm rfl))
 have hneB':∀g,nv'.ownBlock=some g->g≠B:=λg hg e=>by
  rcases hg5 g hg with h1|h1
  ·exact hneB g h1 e
  ·omega
 have hst:zq t ow W (ow.ext W.heap.size (λk=>nv'.ownBlock=some k) (t++ [20])) (W7.setCell ⟨B,0,none⟩ nv'):=
  ⟨(Mod.grown (X:=λk=>Sub t (ow k)) hgr (λk hk=>by rw [h.rown k hk];exact Sub.child t 20)).thenSet (p:=⟨B,0,none⟩) (by simp only [h.own];exact Sub.rfl' t) _,λk hk=>Own.ext_old hk⟩
 have hkp:∀j,j≠20->∀k,k<W.heap.size->Sub (t++ [j]) (ow k)->(ow.ext W.heap.size (λk=>nv'.ownBlock=some k) (t++ [20])) k=ow k/\(W7.setCell ⟨B,0,none⟩ nv').heap[k]?=W.heap[k]?:=λj hj k hk hs=>by
  refine⟨Own.ext_old hk,?_⟩;have hkB:k≠B:=λe=>by rw [e,h.own] at hs;exact zL t j hs
  rw [N4 _ _ _ _ hkB];refine hgr.block k hk (λe=>?_);rw [h.rown k e.symm] at hs;exact(zC t hj).1 hs
 have k1:∀k j,j≠20->k<W.heap.size->ow k=t++ [j] ->(ow.ext W.heap.size (λk=>nv'.ownBlock=some k) (t++ [20])) k=ow k/\(W7.setCell ⟨B,0,none⟩ nv').heap[k]?=W.heap[k]?:=λk j hj hk ho=>hkp j hj k hk (by rw [ho];exact Sub.rfl' _)
 have ks:=k1 sb 21 (by omega) h.sk.lt h.so;have kl:=k1 lm 17 (by omega) h.lk.lt h.lo;have kh:=k1 hm 18 (by omega) h.hk.lt h.ho
 refine⟨hst,k7.set nv',(Own.ext_old lB).trans h.own,hrow.kept (λg hg=>N4 _ _ _ _ (λe=>hneB' g hg e)),λg hg=>?_,λi c hc=>?_,
  h.sk.kept ks.2,ks.1.trans h.so,h.lk.kept kl.2,kl.1.trans h.lo,h.hk.kept kh.2,kh.1.trans h.ho,jg.loc _ _ _ _ _ _ _ _ h.fl hst.size (hkp 16 (by omega))⟩
 ·rcases hg5 g hg with h1|h1
  ·rw [Own.ext_old (h.row.lt h1),h.rown g h1]
  ·rw [Own.ext_new (by omega) hg]
 ·rcases Nat.lt_or_ge i nl.length with hi|hi
  ·rw [U8 hi] at hc
   exact jq.loc _ _ _ _ _ _ _ (h.nodes i c hc) hst.size (hkp i (by omega))
  ·rw [U6 hi] at hc
   have hi0:i=nl.length:=by
    have:=(N6.1 hc).1;simp at this;omega
   subst hi0;simp at hc
   subst hc;exact jq.loc _ _ _ _ _ _ _ hN hst.size (hkp nl.length (by omega))
theorem Yd.done {B sb lm fb hm n bx dm:Nat}{v cap:Int}{nv:Value}{nl:List Nat}{t:List Nat}{ow:Own}{W:World}(h:Yd B sb lm fb hm n v cap nv nl t ow W)(hn:nl.length=n)(h1:1<=n)(hn16:n<=16)
 (hb:Blk W bx #[.pointer (some ⟨B,0,none⟩)] 24) (hd:zU W dm zfx (YA bx)) (ob:ow bx=t++ [19]) (od:ow dm=t++ [19]):
 zq t ow W ow (W.setCell ⟨B,5,none⟩ (.map (some dm)))/\∃K,zy B K (vU n v cap (zo v)) t ow (W.setCell ⟨B,5,none⟩ (.map (some dm))):=by
 have hM:Mod (λk=>k=B) W (W.setCell ⟨B,5,none⟩ (.map (some dm))):=(Mod.refl (λk=>k=B) W).thenSet (p:=⟨B,5,none⟩) rfl _
 obtain⟨nb,nc,hnv⟩:∃nb nc,nv=.slice (some ⟨nb,0,none⟩) nl.length nc:=by
  rcases h.row.form with⟨-,h0, -⟩|⟨g,cap,h, -⟩
  ·omega
  ·exact⟨g,cap,h⟩
 subst hnv;have hnB:∀k i,ow k=t++ [i] ->k≠B:=λk i ho e=>by rw [e,h.own] at ho;have:=congrArg List.length ho;simp at this
 have hkp:∀k i,ow k=t++ [i] ->(W.setCell ⟨B,5,none⟩ (.map (some dm))).heap[k]?=W.heap[k]?:=λk i ho=>N4 _ _ _ _ (hnB k i ho)
 have hnl:(vU n v cap (zo v)).nodes.length=n:=by simp [vU]
 refine⟨zq.setCell W ⟨B,5,none⟩ _ (by simp only [h.own];exact Sub.rfl' t),⟨fb,lm,hm,dm,bx,nb,nc,sb,nl⟩,.slice none 0 0,λ_=>none,?_,h.own,λi=>?_⟩
 ·rw [hnl]
  have:=h.blk.set (o:=5) (.map (some dm));rw [hn] at this;exact this
 unfold vP
 split
 ·intro m hm'
  have hm2:((List.range n).map λ(i:Nat)=>zhL i v cap [] (zo v))[i]?=some m:=hm';rw [List.getElem?_map] at hm2;obtain⟨j,hj,rfl⟩:=Option.map_eq_some_iff.1 hm2;obtain⟨hjl,hje⟩:=N6.1 hj;simp only [List.getElem_range] at hje;subst hje;have hil:i<nl.length:=by simp only [List.length_range] at hjl;omega
  refine⟨nl[i],N3 hil,?_⟩;exact(jq.loc _ _ _).node (h.nodes i _ (N3 hil)) h.own hM (λ_ _=>rfl)
 split
 ·rename_i e;subst e
  exact(jg.loc _ _ _ _).node h.fl h.own hM (λ_ _=>rfl)
 split
 ·rename_i e;subst e
  exact⟨h.lo,[],by simp,h.lk.kept (hkp _ _ h.lo),λj=>rfl⟩
 split
 ·rename_i e;subst e
  exact⟨h.ho,h.hk.kept (hkp _ _ h.ho)⟩
 split
 ·rename_i e;subst e
  exact⟨od,ob,hd.kept (hkp _ _ od),hb.kept (hkp _ _ ob)⟩
 split
 ·rename_i e;subst e
  refine⟨h.rown nb rfl,by rw [hnl];exact hn,?_⟩;rw [hnl,← hn];exact h.row.kept (λg hg=>hkp _ _ (h.rown g hg))
 split
 ·rename_i e;subst e
  exact⟨h.so,by rw [hnl];simp [vU],h.sk.kept (hkp _ _ h.so)⟩
 split
 ·exact⟨λg hg=>by simp [Value.ownBlock] at hg,zX _ _ _⟩
 split
 ·trivial
 ·simp [vU,zK]
theorem zeb(n v cap:Int)(hn:n<1∨16<n)(w:World):Calls prog 13 #[.int .i64 n,.int .i64 v,.int .i64 cap,.slice none 0 0] w λe w'=>e=.returned (.tuple #[.pointer none,.int .i64 2])/\w'=w:=by
 by_cases h:n<1
 ·have t1:decide (n<1)=true:=by simpa using h
  go_enter func13,ntmps13
  go_wp2;go_ret2
  exact⟨rfl,rfl⟩
 ·have t1:decide (n<1)=false:=by simpa using h
  have t2:decide (16<n)=true:=by simp;omega
  go_enter func13,ntmps13
  go_wp2;go_ret2
  exact⟨rfl,rfl⟩
def zec(n:Nat)(v cap:Int)(t:List Nat)(ow:Own)(w:World)(e:Ending)(w':World):Prop:=
 ∃B K ow',e=.returned (.tuple #[.pointer (some ⟨B,0,none⟩),.int .i64 0])/\zq t ow w ow' w'/\Below w.heap.size w w'/\zy B K (vU n v cap (zo v)) t ow' w'/\w.heap.size<=B
theorem Vj(a:Addr)(n:Nat)(hn:1<=n/\n<=16)(v cap:Int)(hv:known v=true)(h1:64<=cap)(h2:cap<=1048576)(t:List Nat)(ow:Own)(w:World)(he:jz w a):
 Calls prog 13 #[.int .i64 (n:Nat),.int .i64 v,.int .i64 cap,.slice none 0 0] w (zec n v cap t ow w):=by
 have hnew:=λ(i:Nat) hi ow W hW=>ziC a i v cap (by omega) hi hv h1 h2 (t++ [i]) ow W hW
 have hmm:= @run_makeMap prog;have t1:decide ((n:Int)<1)=false:=by simp;omega
 have t2:decide (16<(n:Int))=false:=by simp;omega
 have y0:(0:Int)<=(n:Int):=by omega
 replace hnew:=G hnew
 go_enter func13,ntmps13
 go_wp2_with fail
 refine vi [O 0] none zas #[true,false,false,false,false,false,false,false] (m:=7) (by kernel_rfl) (by kernel_rfl) trivial ?_
 (repeat (refine zA (v:=?_) rfl rfl (λw' h=>?_) (λK k=>?_);rotate_left;obtain⟨f1,f2,f3,f4,f5,_⟩:=h;(try have e1:=f1.cell);(try have e2:=f2.cell);(try have e3:=f3.cell);(try have e4:=f4.cell);(try have e5:=f5.cell);go_simp;(try with_reducible rfl);go_simp;refine k _ ?_;clear k K))
 refine jv (λ_=>?_)
 refine Qx (m:=3) [1,2,3,4] (λi=>21+i) (λ_=>undef)
  (λi b=>match i with|1=>.slice (some ⟨b,0,none⟩) n n|2=>.map (some b)|3=>.pointer (some ⟨b,0,none⟩)|_=>.map (some b))
  (λi=>match i with|1=>.cells (Zx n) 86|2=>.map #[] 0|3=>.cells #[.int .u32 0,.slice none 0 0] 110|_=>.map #[] 0) (by kernel_rfl) rfl ?_ ?_
 ·intro i hi g W
  rcases(by simpa using hi:i=1∨i=2∨i=3∨i=4)with rfl|rfl|rfl|rfl
  ·unfold frp
   simp only [List.foldl_cons,List.foldl_nil];go_simp;refine jQ rfl (λJ hJ=>?_);have hms:=Qy n hn.2 W;go_wp2;exact hJ.out _ _ ⟨rfl,rfl⟩
  ·unfold frp
   simp only [List.foldl_cons,List.foldl_nil];go_simp;refine jQ rfl (λJ hJ=>?_);go_wp2;exact hJ.out _ _ ⟨rfl,rfl⟩
  ·unfold frp
   simp only [List.foldl_cons,List.foldl_nil];go_simp;refine jQ rfl (λJ hJ=>?_);go_wp2_with fail
   refine(zbs _).mono ?_;rintro e w1⟨rfl,rfl⟩;go_wp2;exact hJ.out _ _ ⟨rfl,rfl⟩
  ·unfold frp
   simp only [List.foldl_cons,List.foldl_nil];go_simp;refine jQ rfl (λJ hJ=>?_);go_wp2;exact hJ.out _ _ ⟨rfl,rfl⟩
 intro h W hh hd hb0;obtain⟨sb,hsb⟩:∃x,h 1=x:=⟨_,rfl⟩;obtain⟨lm,hlm⟩:∃x,h 2=x:=⟨_,rfl⟩;obtain⟨fb,hfb⟩:∃x,h 3=x:=⟨_,rfl⟩;obtain⟨hm,hhm⟩:∃x,h 4=x:=⟨_,rfl⟩;have g1:=hh 1 (by simp);have g2:=hh 2 (by simp);have g3:=hh 3 (by simp);have g4:=hh 4 (by simp);have d12:=hd 1 (by simp) 2 (by simp) (by decide);have d13:=hd 1 (by simp) 3 (by simp) (by decide);have d14:=hd 1 (by simp) 4 (by simp) (by decide);have d23:=hd 2 (by simp) 3 (by simp) (by decide);have d24:=hd 2 (by simp) 4 (by simp) (by decide);have d34:=hd 3 (by simp) 4 (by simp) (by decide);simp only [hsb,hlm,hfb,hhm] at g1 g2 g3 g4 d12 d13 d14 d23 d24 d34;unfold frp;simp only [List.foldl_cons,List.foldl_nil,hsb,hlm,hfb,hhm];go_simp;clear hh hd hsb hlm hfb hhm h;refine xZ [E 5,E 6,O 7] (by kernel_rfl) (λ_=>trivial) ?_;refine j0 rfl (by simp) (λJ hJ=>?_);go_wp2;refine hJ.out _ _ trivial ?_;clear hJ J;refine j0 rfl (by simp) (λJ hJ=>?_);go_wp2;refine hJ.out _ _ trivial ?_;clear hJ J
 (repeat (refine zA (v:=?_) rfl rfl (λw' h=>?_) (λK k=>?_);rotate_left;obtain⟨f1,f2,f3,f4,f5,_⟩:=h;(try have e1:=f1.cell);(try have e2:=f2.cell);(try have e3:=f3.cell);(try have e4:=f4.cell);(try have e5:=f5.cell);go_simp;(try with_reducible rfl);go_simp;refine k _ ?_;clear k K))
 refine jv ?_;obtain⟨W1,hW1⟩:∃x,x=W.alloc (.cells #[.slice none 0 0,.slice (some ⟨sb,0,none⟩) n n,.map (some lm),.pointer (some ⟨fb,0,none⟩),.map (some hm),.map none,.slice none 0 0] 72):=⟨_,rfl⟩;have hzw:w.drew.heap.size=w.heap.size:=rfl;have hbW:Below w.heap.size w W1:=by rw [hW1];exact zg (ze (zn (N2 _ _)) hb0) _
 have kB1:Blk W1 W.heap.size #[.slice none 0 0,.slice (some ⟨sb,0,none⟩) n n,.map (some lm),.pointer (some ⟨fb,0,none⟩),.map (some hm),.map none,.slice none 0 0] 72:=by rw [hW1];exact Blk.new rfl
 have hold:∀k o,W.heap[k]?=some o->W1.heap[k]?=some o:=λk o hk=>by rw [hW1];exact(U4 W _ _ (N5.1 hk).1).trans hk
 have hlt:∀k o,W.heap[k]?=some o->k<W.heap.size:=λk o hk=>(N5.1 hk).1
 have q1:=hlt _ _ g1.1;have q2:=hlt _ _ g2.1;have q3:=hlt _ _ g3.1;have q4:=hlt _ _ g4.1;have hbz:=hb0.size;rw [← hW1];obtain⟨ow1,how1⟩:∃f:Own,f=λk=>if k<w.heap.size then ow k else if k=W.heap.size then t else if k=sb then t++ [21] else if k=lm then t++ [17] else if k=fb then t++ [16] else if k=hm then t++ [18] else []:=⟨_,rfl⟩
 have hst1:zq t ow w ow1 W1:=⟨Mod.of_below _ hbW,λk hk=>by rw [how1];simp only [if_pos hk]⟩
 have hH1:Yd W.heap.size sb lm fb hm n v cap (.slice none 0 0) [] t ow1 W1:=by
  have n1:¬W.heap.size<w.heap.size:=by omega
  have n2:¬sb<w.heap.size:=by omega
  have n3:¬lm<w.heap.size:=by omega
  have n4:¬fb<w.heap.size:=by omega
  have n5:¬hm<w.heap.size:=by omega
  refine⟨kB1,?_,zX _ _ _,λg hg=>(by cases hg),λi b hb=>(by simp at hb),hold _ _ g1.1,?_,?_,?_,?_,?_,?_⟩
  ·rw [how1];simp only [if_neg n1,if_true]
  ·rw [how1];simp only [if_neg n2,if_neg (show¬sb=W.heap.size by omega),if_true]
  ·exact⟨#[],0,hold _ _ g2.1,rfl,by simp,by simp⟩
  ·rw [how1];simp only [if_neg n3,if_neg (show¬lm=W.heap.size by omega),if_neg (Ne.symm d12),if_true]
  ·exact⟨#[],0,hold _ _ g4.1,rfl,by simp,by simp⟩
  ·rw [how1];simp only [if_neg n5,if_neg (show¬hm=W.heap.size by omega),if_neg (Ne.symm d14),if_neg (Ne.symm d24),if_neg (Ne.symm d34),if_true]
  ·refine⟨.slice none 0 0,hold _ _ g3.1,⟨rfl,.inl ⟨rfl,rfl⟩⟩,?_,λg hg=>(by cases hg)⟩
   rw [how1];simp only [if_neg n4,if_neg (show¬fb=W.heap.size by omega),if_neg (Ne.symm d13),if_neg (Ne.symm d23),if_true]
 have hBw:w.heap.size<=W.heap.size:=by omega
 have hel:=he.lt
 generalize W.heap.size=B at*
 clear hold hlt g1 g2 g3 g4 q1 q2 q3 q4 d12 d13 d14 d23 d24 d34 hW1 hb0 how1 hbz kB1;go_wp2
 go_loopw [29] (λp29 wr=>∃(nl:List Nat)(nv:Value)(ow':Own),p29=.int .i64 (nl.length:Nat)/\nl.length<=n/\zq t ow w ow' wr/\Below w.heap.size w wr/\(∀g,nv.ownBlock=some g->w.heap.size<=g)/\Yd B sb lm fb hm n v cap nv nl t ow' wr) (λp29 _=>n - (intOf p29).toNat)
 case atStart=>exact⟨[],.slice none 0 0,ow1,rfl,Nat.zero_le _,hst1,hbW,λg hg=>(by cases hg),hH1⟩
 case round=>
  obtain⟨nl,nv,ow',rfl,hjn,hst,hbw,hng,hH⟩:=hrel;clear hH1 hst1 hbW;obtain⟨j,hj⟩:∃j,nl.length=j:=⟨_,rfl⟩;rw [hj] at hjn⊢
  by_cases hjN:j<n
  ·have t3:decide ((j:Int)<(n:Int))=true:=by simpa using hjN
   have t4:decide ((j:Int)<0)=false:=by simp
   have hwj:IntKind.i64.wrap ((j:Int)+1)=(j:Int)+1:=by rw [N8];omega
   have hnw:=hnew.out j (by omega) ow' _ (he.below hbw hel);replace hnw:=G hnw;replace hj:=G hj;replace hH:=G hH;replace hng:=G hng;go_wp2_with fail
   refine hnw.out.mono ?_;rintro e w2⟨b,ow2,rfl,hs2,hb2,hN2,hge2⟩;have hH2:Yd B sb lm fb hm n v cap nv nl t ow2 w2:=Yd.loc _ _ _ _ _ _ _ _ _ _ _ _ _ _ _ hH.out hb2.size (λk hk _=>⟨hs2.agree k hk,hb2.block k hk⟩);have hb3:Below w2.heap.size w2 (w2.alloc (.cells #[.pointer (some ⟨b,0,none⟩)] 48)):=zg (N2 _ _) _;have k3:Blk (w2.alloc (.cells #[.pointer (some ⟨b,0,none⟩)] 48)) w2.heap.size #[.pointer (some ⟨b,0,none⟩)] 48:=Blk.new rfl;have hsrc3:Src (w2.alloc (.cells #[.pointer (some ⟨b,0,none⟩)] 48)) (.slice (some ⟨w2.heap.size,0,none⟩) 1 1) 1 [b].length (vk [b]):=jH (n:=1) (size:=1) (cap:=1) k3 rfl (N0 1);have hH3:=(Yd.loc B sb lm fb hm n v cap nv nl t).cut hH2 hb3;have hN3:=(jq.loc b _ _).cut hN2 hb3;obtain⟨nv',W7,hrun,hrow,hgr,hown⟩:=zN zkl hH3.row hsrc3 (zb0 _) (by rw [hj.out];simp;omega) 65
   have hrow':Row W7 48 1 nv' (nl++ [b]).length (vk (nl++ [b])):=by
    rw [N1,show vk (nl++ [b])=vk nl++vk [b] by unfold vk;simp];exact hrow
   have hN3':=hN3;rw [← hj.out] at hN3';obtain⟨hs8,hH8⟩:=hH3.push hN3' (by rw [hj.out];omega) hrow' hgr hown;have hb7:Below w.heap.size w W7:=(ze (ze hbw hb2) hb3).grown hgr (by have:=hb2.size;have:=hbw.size;simp;omega) (λk hk=>hng.out k hk)
   have hng':∀g,nv'.ownBlock=some g->w.heap.size<=g:=λg hg=>by
    rw [hg] at hown
    rcases hown with h|h
    ·exact hng.out g h.symm
    ·have:=hb2.size;have:=hbw.size;simp at h;omega
   have hz8:=hbw.size;have hz9:=hb2.size;have hz7:=hH3.row.ne_blk hH3.blk (by decide) (g:=B);have kB7:=hH3.blk.kept (w':=W7) (hgr.block B hH3.blk.lt (λe=>hz7 e.symm rfl));have c20:=hH2.blk.cell 0;have c70:=kB7.cell 0;have f7:=kB7.frozen;have l7:=kB7.lt;obtain⟨na,nc,rfl⟩:=hH3.row.wideV.shape;obtain⟨na',nc',rfl⟩:=hrow'.wideV.shape;simp only [N1,U2] at hs8 hH8 hng' hrun;replace hH2:=G hH2;replace hH3:=G hH3;replace hH8:=G hH8;replace hng':=G hng';replace hrow':=G hrow';replace hrow:=G hrow;replace hgr:=G hgr;replace hown:=G hown;replace hN2:=G hN2;replace hN3:=G hN3;replace hN3':=G hN3';replace hrun:=G hrun;replace hs8:=G hs8
   go_wp2_with (at_builtin
                refine zv rfl _ _ _ rfl rfl rfl hrun.out ?_)
   go_roundw
   case rel=>exact⟨nl++ [b],_,_,by simp [hj.out],by simp [hj.out];omega,(hst.trans (hs2.mono (Sub.child t j))).trans (zq.wrap hb3 hs8.out),zp hb7 hBw _,hng'.out,hH8.out⟩
   case measure=>simp [intOf];omega
  ·obtain rfl:n=j:=by omega
   have t3:decide ((n:Int)<(n:Int))=false:=by simp
   replace hH:=G hH;replace hng:=G hng;replace hj:=G hj;go_wp2_with fail
   refine(zfP B _).mono ?_;rintro e w8⟨rfl,hb8,kX8,hM8⟩;have hH8:Yd B sb lm fb hm n v cap nv nl t (ow'.ext wr.heap.size (λk=>k=wr.heap.size∨k=wr.heap.size+1) (t++ [19])) w8:=Yd.loc _ _ _ _ _ _ _ _ _ _ _ _ _ _ _ hH.out hb8.size (λk hk _=>⟨Own.ext_old hk,hb8.block k hk⟩);have c8:=hH8.blk.cell 5;have f8:=hH8.blk.frozen;have l8:=hH8.blk.lt;obtain⟨hs9,K,hW9⟩:=hH8.done hj.out hn.1 hn.2 kX8 hM8 (Own.ext_new (by omega) (.inl rfl)) (Own.ext_new (by omega) (.inr rfl));replace hH8:=G hH8;go_wp2;go_ret2
   exact⟨B,K,_,rfl,(hst.trans ⟨Mod.of_below _ hb8,λk hk=>Own.ext_old hk⟩).trans hs9,zp (ze hbw hb8) hBw _,hW9,hBw⟩
theorem zb1(id v cap:Int)(hi:0<=id)(hi2:id<16)(hv:known v=false)(h1:64<=cap)(h2:cap<=1048576)(w:World):
 Calls prog 32 #[.int .i64 id,.int .i64 v,.int .i64 cap,.slice none 0 0] w λe w'=>e=.returned (.tuple #[.pointer none,.int .i64 130])/\Below w.heap.size w w':=by
 have hst:=zaO cap h1 h2 [1] (λ_=>[]) w;have hcl:=λW=>Tryz.slices_Clone_int_nil 0 0 W
 have hno:=zjE v hv;have t1:decide (id<0)=false:=by simp;omega
 have t2:decide (16<=id)=false:=by simp;omega
 have hbeg:∀(W:World)(B:Nat)(sv:Value),Blk W B #[.pointer none,.int .i64 id,.int .i64 v,.slice none 0 0,sv,.pointer none,.pointer none,.slice none 0 0,.int .i64 0,.int .i64 0,.int .i64 0,.bool false] 95->
  Calls prog 48 #[.pointer (some ⟨B,0,none⟩)] W λe w'=>e=.returned (.int .i64 130)/\Below W.heap.size W w':=by
  intro W B sv hB;have e0:=hB.cell;replace hst:=G hst;replace hno:=G hno
  go_enter func48,ntmps48
  go_wp2_with fail
  refine(hno.out _).mono ?_;rintro e w1⟨rfl,hb1⟩;go_wp2;go_ret
  exact⟨rfl,hb1⟩
 replace hst:=G hst;replace hcl:=G hcl;replace hbeg:=G hbeg
 go_enter func32,ntmps32
 go_wp2_with fail
 refine hst.out.mono ?_;rintro e w1⟨sb,ow1,rfl,hs1,hb1,hS,hsb⟩;go_wp2_with fail
 refine(hcl.out _).mono ?_;rintro e w2⟨rfl,hw2⟩;obtain rfl:=hw2.symm;go_wp2_with fail
 refine(hbeg.out _ _ _ (Blk.new rfl)).mono ?_;rintro e w3⟨rfl,hb3⟩;go_wp2;go_ret2
 exact⟨rfl,ze (zg hb1 _) hb3⟩
theorem ziS(n:Nat)(hn:1<=n/\n<=16)(v cap:Int)(hv:known v=false)(h1:64<=cap)(h2:cap<=1048576)(w:World):
 Calls prog 13 #[.int .i64 (n:Nat),.int .i64 v,.int .i64 cap,.slice none 0 0] w λe w'=>e=.returned (.tuple #[.pointer none,.int .i64 130])/\Below w.heap.size w w':=by
 have hnew:=λW=>zb1 0 v cap (by omega) (by omega) hv h1 h2 W
 have hmm:= @run_makeMap prog;have t1:decide ((n:Int)<1)=false:=by simp;omega
 have t2:decide (16<(n:Int))=false:=by simp;omega
 have y0:(0:Int)<=(n:Int):=by omega
 replace hnew:=G hnew
 go_enter func13,ntmps13
 go_wp2_with fail
 refine vi [O 0] none zas #[true,false,false,false,false,false,false,false] (m:=7) (by kernel_rfl) (by kernel_rfl) trivial ?_
 (repeat (refine zA (v:=?_) rfl rfl (λw' h=>?_) (λK k=>?_);rotate_left;obtain⟨f1,f2,f3,f4,f5,_⟩:=h;(try have e1:=f1.cell);(try have e2:=f2.cell);(try have e3:=f3.cell);(try have e4:=f4.cell);(try have e5:=f5.cell);go_simp;(try with_reducible rfl);go_simp;refine k _ ?_;clear k K))
 refine jv (λ_=>?_)
 refine Qx (m:=3) [1,2,3,4] (λi=>21+i) (λ_=>undef)
  (λi b=>match i with|1=>.slice (some ⟨b,0,none⟩) n n|2=>.map (some b)|3=>.pointer (some ⟨b,0,none⟩)|_=>.map (some b))
  (λi=>match i with|1=>.cells (Zx n) 86|2=>.map #[] 0|3=>.cells #[.int .u32 0,.slice none 0 0] 110|_=>.map #[] 0) (by kernel_rfl) rfl ?_ ?_
 ·intro i hi g W
  rcases(by simpa using hi:i=1∨i=2∨i=3∨i=4)with rfl|rfl|rfl|rfl
  ·unfold frp
   simp only [List.foldl_cons,List.foldl_nil];go_simp;refine jQ rfl (λJ hJ=>?_);have hms:=Qy n hn.2 W;go_wp2;exact hJ.out _ _ ⟨rfl,rfl⟩
  ·unfold frp
   simp only [List.foldl_cons,List.foldl_nil];go_simp;refine jQ rfl (λJ hJ=>?_);go_wp2;exact hJ.out _ _ ⟨rfl,rfl⟩
  ·unfold frp
   simp only [List.foldl_cons,List.foldl_nil];go_simp;refine jQ rfl (λJ hJ=>?_);go_wp2_with fail
   refine(zbs _).mono ?_;rintro e w1⟨rfl,rfl⟩;go_wp2;exact hJ.out _ _ ⟨rfl,rfl⟩
  ·unfold frp
   simp only [List.foldl_cons,List.foldl_nil];go_simp;refine jQ rfl (λJ hJ=>?_);go_wp2;exact hJ.out _ _ ⟨rfl,rfl⟩
 intro h W hh hd hb0;obtain⟨sb,hsb⟩:∃x,h 1=x:=⟨_,rfl⟩;obtain⟨lm,hlm⟩:∃x,h 2=x:=⟨_,rfl⟩;obtain⟨fb,hfb⟩:∃x,h 3=x:=⟨_,rfl⟩;obtain⟨hm,hhm⟩:∃x,h 4=x:=⟨_,rfl⟩;have g1:=hh 1 (by simp);have g2:=hh 2 (by simp);have g3:=hh 3 (by simp);have g4:=hh 4 (by simp);have d12:=hd 1 (by simp) 2 (by simp) (by decide);have d13:=hd 1 (by simp) 3 (by simp) (by decide);have d14:=hd 1 (by simp) 4 (by simp) (by decide);have d23:=hd 2 (by simp) 3 (by simp) (by decide);have d24:=hd 2 (by simp) 4 (by simp) (by decide);have d34:=hd 3 (by simp) 4 (by simp) (by decide);simp only [hsb,hlm,hfb,hhm] at g1 g2 g3 g4 d12 d13 d14 d23 d24 d34;unfold frp;simp only [List.foldl_cons,List.foldl_nil,hsb,hlm,hfb,hhm];go_simp;clear hh hd hsb hlm hfb hhm h;refine xZ [E 5,E 6,O 7] (by kernel_rfl) (λ_=>trivial) ?_;refine j0 rfl (by simp) (λJ hJ=>?_);go_wp2;refine hJ.out _ _ trivial ?_;clear hJ J;refine j0 rfl (by simp) (λJ hJ=>?_);go_wp2;refine hJ.out _ _ trivial ?_;clear hJ J
 (repeat (refine zA (v:=?_) rfl rfl (λw' h=>?_) (λK k=>?_);rotate_left;obtain⟨f1,f2,f3,f4,f5,_⟩:=h;(try have e1:=f1.cell);(try have e2:=f2.cell);(try have e3:=f3.cell);(try have e4:=f4.cell);(try have e5:=f5.cell);go_simp;(try with_reducible rfl);go_simp;refine k _ ?_;clear k K))
 refine jv ?_;have hbW:=zg (ze (zn (N2 _ _)) hb0) (.cells #[.slice none 0 0,.slice (some ⟨sb,0,none⟩) n n,.map (some lm),.pointer (some ⟨fb,0,none⟩),.map (some hm),.map none,.slice none 0 0] 72);obtain⟨W1,hW1⟩:∃x,x=W.alloc (.cells #[.slice none 0 0,.slice (some ⟨sb,0,none⟩) n n,.map (some lm),.pointer (some ⟨fb,0,none⟩),.map (some hm),.map none,.slice none 0 0] 72):=⟨_,rfl⟩;rw [← hW1] at hbW⊢
 generalize W.heap.size=B at*
 clear g1 g2 g3 g4 d12 d13 d14 d23 d24 d34 hW1 hb0;go_wp2;have t3:decide ((0:Int)<(n:Int))=true:=by simp;omega
 go_loopw [29] (λp29 wr=>p29=.int .i64 0/\wr=W1) (λ_ _=>0)
 case atStart=>exact⟨rfl,rfl⟩
 case round=>
  obtain⟨rfl,rfl⟩:=hrel;go_wp2_with fail
  refine(hnew.out _).mono ?_;rintro e w2⟨rfl,hb2⟩;go_wp2;go_ret2
  exact⟨rfl,ze hbW hb2⟩
