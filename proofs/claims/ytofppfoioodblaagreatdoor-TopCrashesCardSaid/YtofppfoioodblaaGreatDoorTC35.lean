/- PARTS OF THE PROOF. -/
import Derived.Test.YtofppfoioodblaaGreatDoorTC34
set_option maxRecDepth 8000
set_option maxHeartbeats 4000000
open Go.Proofs.Tryz
namespace Go.Proofs.YtofppfoioodblaaGreatDoor
section
open Go Go.RowKit Go.Shelf Go.Extern.Stop Go.Stop Go.Extern
attribute [local go_sem] Oper.semAt_some zB zp
theorem zmp:Yc prog 62 43 1 8 (.pointer none):=⟨Tryz.underlying62,by kernel_rfl,rfl,by decide,by decide⟩
theorem zc5(l:List Nat):∀u∈vK l,u.oneCell'=true:=by
 intro u hu;obtain⟨m,_,rfl⟩:=List.mem_map.1 hu;rfl
def YM(n:Nat):Array Value:=((List.replicate n yA).flatMap j6).toArray
theorem zk4:Yc prog 57 90 5 32 (.agg #[.int .u64 0,.int .i64 0,.int .i64 0,.bool false,.bool false]):=⟨Tryz.underlying57,by kernel_rfl,rfl,by decide,by decide⟩
theorem zhi(n:Nat)(hn:n<=16):madeCells #[.int .u64 0,.int .i64 0,.int .i64 0,.bool false,.bool false] (n*5)=YM n:=by
 rcases(by omega:n=0∨n=1∨n=2∨n=3∨n=4∨n=5∨n=6∨n=7∨n=8∨n=9∨n=10∨n=11∨n=12∨n=13∨n=14∨n=15∨n=16)with rfl|rfl|rfl|rfl|rfl|rfl|rfl|rfl|rfl|rfl|rfl|rfl|rfl|rfl|rfl|rfl|rfl<;>kernel_rfl
theorem zhj(n:Nat)(hn:n<=16)(W:World):(Instr.makeSlice 57 (.int .i64 (n:Nat)) (.int .i64 (n:Nat))).run prog W=.ok (.slice (some ⟨W.heap.size,0,none⟩) n n) (W.alloc (.cells (YM n) 90)):=by
 obtain⟨i,hi,ad,aa,ac⟩:=info_parts zk4.info;have h:=run_makeSlice (P:=prog) (w:=W) 57 90 i _ zk4.under hi ad .i64 .i64 (n:Nat) (n:Nat) (by omega) (Int.le_refl _) (by rw [aa];omega) (by rw [ac];omega) (by omega);simp only [Int.toNat_natCast,aa] at h;rw [h,← zhi n hn];rfl
structure YN(B sb lm fb hm n:Nat)(v cap:Int)(nv:Value)(nl:List Nat)(t:List Nat)(ow:Own)(W:World):Prop where
 blk:Blk W B #[nv,.slice (some ⟨sb,0,none⟩) n n,.map (some lm),.pointer (some ⟨fb,0,none⟩),.map (some hm),.map none,.slice none 0 0] 65
 own:ow B=t
 row:Row W 43 1 nv nl.length (vK nl)
 rown:∀g,nv.ownBlock=some g->ow g=t++ [20]
 nodes:∀(i:Nat) b,nl[i]?=some b->jF b (zhv i v cap [] (zk v)) (t++ [i]) ow W
 sk:Blk W sb (YM n) 90
 so:ow sb=t++ [21]
 lk:z6 W lm Vf []
 lo:ow lm=t++ [17]
 hk:z6 W hm zhw []
 ho:ow hm=t++ [18]
 fl:jT fb 0 [] (t++ [16]) ow W
theorem YN.loc(B sb lm fb hm n:Nat)(v cap:Int)(nv:Value)(nl:List Nat)(t:List Nat):yI t (YN B sb lm fb hm n v cap nv nl t):=by
 intro ow ow' W W' h hs hk;have kk:∀k i,k<W.heap.size->ow k=t++ [i] ->ow' k=ow k/\W'.heap[k]?=W.heap[k]?:=λk i h1 h2=>hk k h1 (by rw [h2];exact Sub.child t i)
 have kB:=hk B h.blk.lt (by rw [h.own];exact Sub.rfl' t);have ks:=kk sb 21 h.sk.lt h.so;have kl:=kk lm 17 h.lk.lt h.lo;have kh:=kk hm 18 h.hk.lt h.ho;have kr:=λg hg=>kk g 20 (h.row.lt hg) (h.rown g hg)
 exact⟨h.blk.kept kB.2,kB.1.trans h.own,h.row.kept (λg hg=>(kr g hg).2),λg hg=>(kr g hg).1.trans (h.rown g hg),
  λi b hb=>jF.loc _ _ _ _ _ _ _ (h.nodes i b hb) hs (λk h1 h2=>hk k h1 ((Sub.child t i).trans h2)),
  h.sk.kept ks.2,ks.1.trans h.so,h.lk.kept kl.2,kl.1.trans h.lo,h.hk.kept kh.2,kh.1.trans h.ho,jT.loc _ _ _ _ _ _ _ _ h.fl hs (λk h1 h2=>hk k h1 ((Sub.child t 16).trans h2))⟩
theorem YN.push {B sb lm fb hm n:Nat}{v cap:Int}{nv nv':Value}{nl:List Nat}{t:List Nat}{ow:Own}{W W7:World}(h:YN B sb lm fb hm n v cap nv nl t ow W){b:Nat}(hN:jF b (zhv nl.length v cap [] (zk v)) (t++ [nl.length]) ow W)(hl:nl.length<16)
 (hrow:Row W7 43 1 nv' (nl++ [b]).length (vK (nl++ [b]))) (hgr:W.grownBy W7 nv.ownBlock) (hown:nv'.ownBlock=nv.ownBlock∨nv'.ownBlock=some W.heap.size):
 zt t ow W (ow.ext W.heap.size (λk=>nv'.ownBlock=some k) (t++ [20])) (W7.setCell ⟨B,0,none⟩ nv')/\YN B sb lm fb hm n v cap nv' (nl++ [b]) t (ow.ext W.heap.size (λk=>nv'.ownBlock=some k) (t++ [20])) (W7.setCell ⟨B,0,none⟩ nv'):=by
 have ac:∀g,nv.ownBlock=some g->g≠B:=λg hg=>h.row.ne_blk h.blk (by decide) hg
 have lB:=h.blk.lt
 have af:∀g,nv'.ownBlock=some g->(nv.ownBlock=some g∨g=W.heap.size):=λg hg=>by
  rw [hg] at hown
  rcases hown with h|h
  ·exact .inl h.symm
  right;simpa using h
 have k7:=h.blk.kept (w':=W7) (hgr.block B lB (λe=>ac B e.symm rfl))
 have aa:∀g,nv'.ownBlock=some g->g≠B:=λg hg e=>by
  rcases af g hg with h1|h1
  ·exact ac g h1 e
  omega
 have ad:zt t ow W (ow.ext W.heap.size (λk=>nv'.ownBlock=some k) (t++ [20])) (W7.setCell ⟨B,0,none⟩ nv'):=
  ⟨(Mod.grown (X:=λk=>Sub t (ow k)) hgr (λk hk=>by rw [h.rown k hk];exact Sub.child t 20)).thenSet (p:=⟨B,0,none⟩) (by simp only [h.own];exact Sub.rfl' t) _,λk hk=>Own.ext_old hk⟩
 have ae:∀j,j≠20->∀k,k<W.heap.size->Sub (t++ [j]) (ow k)->(ow.ext W.heap.size (λk=>nv'.ownBlock=some k) (t++ [20])) k=ow k/\(W7.setCell ⟨B,0,none⟩ nv').heap[k]?=W.heap[k]?:=λj hj k hk hs=>by
  refine⟨Own.ext_old hk,?_⟩;have ah:k≠B:=λe=>by rw [e,h.own] at hs;exact zU t j hs
  rw [N4 _ _ _ _ ah];refine hgr.block k hk (λe=>?_);rw [h.rown k e.symm] at hs;exact(zS t hj).1 hs
 have k1:∀k j,j≠20->k<W.heap.size->ow k=t++ [j] ->(ow.ext W.heap.size (λk=>nv'.ownBlock=some k) (t++ [20])) k=ow k/\(W7.setCell ⟨B,0,none⟩ nv').heap[k]?=W.heap[k]?:=λk j hj hk ho=>ae j hj k hk (by rw [ho];exact Sub.rfl' _)
 have ks:=k1 sb 21 (by omega) h.sk.lt h.so;have kl:=k1 lm 17 (by omega) h.lk.lt h.lo;have kh:=k1 hm 18 (by omega) h.hk.lt h.ho
 refine⟨ad,k7.set nv',(Own.ext_old lB).trans h.own,hrow.kept (λg hg=>N4 _ _ _ _ (λe=>aa g hg e)),λg hg=>?_,λi c hc=>?_,
  h.sk.kept ks.2,ks.1.trans h.so,h.lk.kept kl.2,kl.1.trans h.lo,h.hk.kept kh.2,kh.1.trans h.ho,jT.loc _ _ _ _ _ _ _ _ h.fl ad.size (ae 16 (by omega))⟩
 ·rcases af g hg with h1|h1
  ·rw [Own.ext_old (h.row.lt h1),h.rown g h1]
  rw [Own.ext_new (by omega) hg]
 rcases Nat.lt_or_ge i nl.length with hi|hi
 ·rw [U8 hi] at hc
  exact jF.loc _ _ _ _ _ _ _ (h.nodes i c hc) ad.size (ae i (by omega))
 rw [U6 hi] at hc
 have ag:i=nl.length:=by
  have:=(N6.1 hc).1;simp at this;omega
 subst ag;simp at hc
 subst hc;exact jF.loc _ _ _ _ _ _ _ hN ad.size (ae nl.length (by omega))
theorem YN.done {B sb lm fb hm n bx dm:Nat}{v cap:Int}{nv:Value}{nl:List Nat}{t:List Nat}{ow:Own}{W:World}(h:YN B sb lm fb hm n v cap nv nl t ow W)(hn:nl.length=n)(h1:1<=n)(hn16:n<=16)
 (hb:Blk W bx #[.pointer (some ⟨B,0,none⟩)] 24) (hd:z6 W dm zgZ (zek bx)) (ob:ow bx=t++ [19]) (od:ow dm=t++ [19]):
 zt t ow W ow (W.setCell ⟨B,5,none⟩ (.map (some dm)))/\∃K,zI B K (Z7 n v cap (zk v)) t ow (W.setCell ⟨B,5,none⟩ (.map (some dm))):=by
 have hM:Mod (λk=>k=B) W (W.setCell ⟨B,5,none⟩ (.map (some dm))):=(Mod.refl (λk=>k=B) W).thenSet (p:=⟨B,5,none⟩) rfl _
 obtain⟨nb,nc,ag⟩:∃nb nc,nv=.slice (some ⟨nb,0,none⟩) nl.length nc:=by
  rcases h.row.form with⟨-,h0, -⟩|⟨g,cap,h, -⟩
  ·omega
  exact⟨g,cap,h⟩
 subst ag;have ah:∀k i,ow k=t++ [i] ->k≠B:=λk i ho e=>by rw [e,h.own] at ho;have:=congrArg List.length ho;simp at this
 have aa:∀k i,ow k=t++ [i] ->(W.setCell ⟨B,5,none⟩ (.map (some dm))).heap[k]?=W.heap[k]?:=λk i ho=>N4 _ _ _ _ (ah k i ho)
 have ac:(Z7 n v cap (zk v)).nodes.length=n:=by simp [Z7]
 refine⟨zt.setCell W ⟨B,5,none⟩ _ (by simp only [h.own];exact Sub.rfl' t),⟨fb,lm,hm,dm,bx,nb,nc,sb,nl⟩,.slice none 0 0,λ_=>none,?_,h.own,λi=>?_⟩
 ·rw [ac]
  have:=h.blk.set (o:=5) (.map (some dm));rw [hn] at this;exact this
 unfold xg
 split
 ·intro m hm'
  have af:((List.range n).map λ(i:Nat)=>zhv i v cap [] (zk v))[i]?=some m:=hm';rw [List.getElem?_map] at af;obtain⟨j,hj,rfl⟩:=Option.map_eq_some_iff.1 af;obtain⟨ai,ad⟩:=N6.1 hj;simp only [List.getElem_range] at ad;subst ad;have ae:i<nl.length:=by simp only [List.length_range] at ai;omega
  refine⟨nl[i],N3 ae,?_⟩;exact(jF.loc _ _ _).node (h.nodes i _ (N3 ae)) h.own hM (λ_ _=>rfl)
 split
 ·rename_i e;subst e
  exact(jT.loc _ _ _ _).node h.fl h.own hM (λ_ _=>rfl)
 split
 ·rename_i e;subst e
  exact⟨h.lo,[],by simp,h.lk.kept (aa _ _ h.lo),λj=>rfl⟩
 split
 ·rename_i e;subst e
  exact⟨h.ho,h.hk.kept (aa _ _ h.ho)⟩
 split
 ·rename_i e;subst e
  exact⟨od,ob,hd.kept (aa _ _ od),hb.kept (aa _ _ ob)⟩
 split
 ·rename_i e;subst e
  refine⟨h.rown nb rfl,by rw [ac];exact hn,?_⟩;rw [ac,← hn];exact h.row.kept (λg hg=>aa _ _ (h.rown g hg))
 split
 ·rename_i e;subst e
  exact⟨h.so,by rw [ac];simp [Z7],h.sk.kept (aa _ _ h.so)⟩
 split
 ·exact⟨λg hg=>by simp [Value.ownBlock] at hg,z7 _ _ _⟩
 split
 ·trivial
 simp [Z7,zE]
def zkL(n:Nat)(v cap:Int)(t:List Nat)(ow:Own)(w:World)(e:Ending)(w':World):Prop:=
 ∃B K ow',e=.returned (.tuple #[.pointer (some ⟨B,0,none⟩),.int .i64 0])/\zt t ow w ow' w'/\Below w.heap.size w w'/\zI B K (Z7 n v cap (zk v)) t ow' w'/\w.heap.size<=B
theorem zfv(a:Addr)(n:Nat)(hn:1<=n/\n<=16)(v cap:Int)(hv:known v=true)(h1:64<=cap)(h2:cap<=1048576)(t:List Nat)(ow:Own)(w:World)(he:jK w a):
 Calls prog 9 #[.int .i64 (n:Nat),.int .i64 v,.int .i64 cap,.slice none 0 0] w (zkL n v cap t ow w):=by
 have ak:=λ(i:Nat) hi ow W hW=>zkw a i v cap (by omega) hi hv h1 h2 (t++ [i]) ow W hW
 have b3:= @run_makeMap prog;have t1:decide ((n:Int)<1)=false:=by simp;omega
 have t2:decide (16<(n:Int))=false:=by simp;omega
 have y0:(0:Int)<=(n:Int):=by omega
 replace ak:=hid ak
 go_enter func9,ntmps9
 go_wp2_with fail
 refine xF [O 0] none zcv #[true,false,false,false,false,false,false,false] (m:=7) (by kernel_rfl) (by kernel_rfl) trivial ?_
 refine Wr ?_
 refine jM (λ_=>?_)
 refine zhh (m:=3) [1,2,3,4] (λi=>21+i) (λ_=>undef)
  (λi b=>match i with|1=>.slice (some ⟨b,0,none⟩) n n|2=>.map (some b)|3=>.pointer (some ⟨b,0,none⟩)|_=>.map (some b))
  (λi=>match i with|1=>.cells (YM n) 90|2=>.map #[] 0|3=>.cells #[.int .u32 0,.slice none 0 0] 122|_=>.map #[] 0) (by kernel_rfl) rfl ?_ ?_
 ·intro i hi g W
  rcases(by simpa using hi:i=1∨i=2∨i=3∨i=4)with rfl|rfl|rfl|rfl
  ·unfold frp
   simp only [List.foldl_cons,List.foldl_nil];go_simp;refine yU rfl (λJ hJ=>?_);have b8:=zhj n hn.2 W;go_wp2;exact hJ.out _ _ ⟨rfl,rfl⟩
  ·unfold frp
   simp only [List.foldl_cons,List.foldl_nil];go_simp;refine yU rfl (λJ hJ=>?_);go_wp2;exact hJ.out _ _ ⟨rfl,rfl⟩
  ·unfold frp
   simp only [List.foldl_cons,List.foldl_nil];go_simp;refine yU rfl (λJ hJ=>?_);go_wp2_with fail
   refine(ziY _).mono ?_;rintro e w1⟨rfl,rfl⟩;go_wp2;exact hJ.out _ _ ⟨rfl,rfl⟩
  unfold frp
  simp only [List.foldl_cons,List.foldl_nil];go_simp;refine yU rfl (λJ hJ=>?_);go_wp2;exact hJ.out _ _ ⟨rfl,rfl⟩
 intro h W hh hd hb0;obtain⟨sb,a8⟩:∃x,h 1=x:=⟨_,rfl⟩;obtain⟨lm,a3⟩:∃x,h 2=x:=⟨_,rfl⟩;obtain⟨fb,a1⟩:∃x,h 3=x:=⟨_,rfl⟩;obtain⟨hm,a9⟩:∃x,h 4=x:=⟨_,rfl⟩;have g1:=hh 1 (by simp);have g2:=hh 2 (by simp);have g3:=hh 3 (by simp);have g4:=hh 4 (by simp);have a2:=hd 1 (by simp) 2 (by simp) (by decide);have a6:=hd 1 (by simp) 3 (by simp) (by decide);have be:=hd 1 (by simp) 4 (by simp) (by decide);have a7:=hd 2 (by simp) 3 (by simp) (by decide);have bc:=hd 2 (by simp) 4 (by simp) (by decide);have bh:=hd 3 (by simp) 4 (by simp) (by decide);simp only [a8,a3,a1,a9] at g1 g2 g3 g4 a2 a6 be a7 bc bh;unfold frp;simp only [List.foldl_cons,List.foldl_nil,a8,a3,a1,a9];go_simp;clear hh hd a8 a3 a1 a9 h;refine qV [E 5,E 6,O 7] (by kernel_rfl) (λ_=>trivial) ?_;refine yP rfl (by simp) (λJ hJ=>?_);go_wp2;refine hJ.out _ _ trivial ?_;clear hJ J;refine yP rfl (by simp) (λJ hJ=>?_);go_wp2;refine hJ.out _ _ trivial ?_;clear hJ J
 refine Wr ?_
 refine jM ?_;obtain⟨W1,ap⟩:∃x,x=W.alloc (.cells #[.slice none 0 0,.slice (some ⟨sb,0,none⟩) n n,.map (some lm),.pointer (some ⟨fb,0,none⟩),.map (some hm),.map none,.slice none 0 0] 65):=⟨_,rfl⟩;have b1:w.drew.heap.size=w.heap.size:=rfl;have ba:Below w.heap.size w W1:=by rw [ap];exact zi (zh (zq (N2 _ _)) hb0) _
 have bj:Blk W1 W.heap.size #[.slice none 0 0,.slice (some ⟨sb,0,none⟩) n n,.map (some lm),.pointer (some ⟨fb,0,none⟩),.map (some hm),.map none,.slice none 0 0] 65:=by rw [ap];exact Blk.new rfl
 have af:∀k o,W.heap[k]?=some o->W1.heap[k]?=some o:=λk o hk=>by rw [ap];exact(U4 W _ _ (N5.1 hk).1).trans hk
 have ar:∀k o,W.heap[k]?=some o->k<W.heap.size:=λk o hk=>(N5.1 hk).1
 have q1:=ar _ _ g1.1;have q2:=ar _ _ g2.1;have q3:=ar _ _ g3.1;have q4:=ar _ _ g4.1;have bv:=hb0.size;rw [← ap];obtain⟨bb,aa⟩:∃f:Own,f=λk=>if k<w.heap.size then ow k else if k=W.heap.size then t else if k=sb then t++ [21] else if k=lm then t++ [17] else if k=fb then t++ [16] else if k=hm then t++ [18] else []:=⟨_,rfl⟩
 have aq:zt t ow w bb W1:=⟨Mod.of_below _ ba,λk hk=>by rw [aa];simp only [if_pos hk]⟩
 have bm:YN W.heap.size sb lm fb hm n v cap (.slice none 0 0) [] t bb W1:=by
  have n1:¬W.heap.size<w.heap.size:=by omega
  have n2:¬sb<w.heap.size:=by omega
  have n3:¬lm<w.heap.size:=by omega
  have n4:¬fb<w.heap.size:=by omega
  have n5:¬hm<w.heap.size:=by omega
  refine⟨bj,?_,z7 _ _ _,λg hg=>(by cases hg),λi b hb=>(by simp at hb),af _ _ g1.1,?_,?_,?_,?_,?_,?_⟩
  ·rw [aa];simp only [if_neg n1,if_true]
  ·rw [aa];simp only [if_neg n2,if_neg (show¬sb=W.heap.size by omega),if_true]
  ·exact⟨#[],0,af _ _ g2.1,rfl,by simp,by simp⟩
  ·rw [aa];simp only [if_neg n3,if_neg (show¬lm=W.heap.size by omega),if_neg (Ne.symm a2),if_true]
  ·exact⟨#[],0,af _ _ g4.1,rfl,by simp,by simp⟩
  ·rw [aa];simp only [if_neg n5,if_neg (show¬hm=W.heap.size by omega),if_neg (Ne.symm be),if_neg (Ne.symm bc),if_neg (Ne.symm bh),if_true]
  refine⟨.slice none 0 0,af _ _ g3.1,⟨rfl,.inl ⟨rfl,rfl⟩⟩,?_,λg hg=>(by cases hg)⟩
  rw [aa];simp only [if_neg n4,if_neg (show¬fb=W.heap.size by omega),if_neg (Ne.symm a6),if_neg (Ne.symm a7),if_true]
 have a5:w.heap.size<=W.heap.size:=by omega
 have bz:=he.lt
 generalize W.heap.size=B at*
 clear af ar g1 g2 g3 g4 q1 q2 q3 q4 a2 a6 be a7 bc bh ap hb0 aa bv bj;go_wp2
 go_loopw [29] (λp29 wr=>∃(nl:List Nat)(nv:Value)(ow':Own),p29=.int .i64 (nl.length:Nat)/\nl.length<=n/\zt t ow w ow' wr/\Below w.heap.size w wr/\(∀g,nv.ownBlock=some g->w.heap.size<=g)/\YN B sb lm fb hm n v cap nv nl t ow' wr) (λp29 _=>n - (intOf p29).toNat)
 case atStart=>exact⟨[],.slice none 0 0,bb,rfl,Nat.zero_le _,aq,ba,λg hg=>(by cases hg),bm⟩
 case round=>
  obtain⟨nl,nv,ow',rfl,bo,bi,ao,an,hH⟩:=hrel;clear bm aq ba;obtain⟨j,hj⟩:∃j,nl.length=j:=⟨_,rfl⟩;rw [hj] at bo⊢
  by_cases hjN:j<n
  ·have t3:decide ((j:Int)<(n:Int))=true:=by simpa using hjN
   have t4:decide ((j:Int)<0)=false:=by simp
   have ca:IntKind.i64.wrap ((j:Int)+1)=(j:Int)+1:=by rw [N8];omega
   have bg:=ak.out j (by omega) ow' _ (he.below ao bz);replace bg:=hid bg;replace hj:=hid hj;replace hH:=hid hH;replace an:=hid an;go_wp2_with fail
   refine bg.out.mono ?_;rintro e w2⟨b,bp,rfl,bl,am,a4,bw⟩;have a0:YN B sb lm fb hm n v cap nv nl t bp w2:=YN.loc _ _ _ _ _ _ _ _ _ _ _ _ _ _ _ hH.out am.size (λk hk _=>⟨bl.agree k hk,am.block k hk⟩);have az:Below w2.heap.size w2 (w2.alloc (.cells #[.pointer (some ⟨b,0,none⟩)] 43)):=zi (N2 _ _) _;have k3:Blk (w2.alloc (.cells #[.pointer (some ⟨b,0,none⟩)] 43)) w2.heap.size #[.pointer (some ⟨b,0,none⟩)] 43:=Blk.new rfl;have au:Src (w2.alloc (.cells #[.pointer (some ⟨b,0,none⟩)] 43)) (.slice (some ⟨w2.heap.size,0,none⟩) 1 1) 1 [b].length (vK [b]):=jP (n:=1) (size:=1) (cap:=1) k3 rfl (N0 1);have ai:=(YN.loc B sb lm fb hm n v cap nv nl t).cut a0 az;have bd:=(jF.loc b _ _).cut a4 az;obtain⟨bk,W7,aj,al,aw,ad⟩:=zQ zmp ai.row au (zc5 _) (by rw [hj.out];simp;omega) 62
   have ac:Row W7 43 1 bk (nl++ [b]).length (vK (nl++ [b])):=by
    rw [N1,show vK (nl++ [b])=vK nl++vK [b] by unfold vK;simp];exact al
   have ag:=bd;rw [← hj.out] at ag;obtain⟨ay,ae⟩:=ai.push ag (by rw [hj.out];omega) ac aw ad;have bq:Below w.heap.size w W7:=(zh (zh ao am) az).grown aw (by have:=am.size;have:=ao.size;simp;omega) (λk hk=>an.out k hk)
   have ah:∀g,bk.ownBlock=some g->w.heap.size<=g:=λg hg=>by
    rw [hg] at ad
    rcases ad with h|h
    ·exact an.out g h.symm
    have:=am.size;have:=ao.size;simp at h;omega
   have b5:=ao.size;have b9:=am.size;have bn:=ai.row.ne_blk ai.blk (by decide) (g:=B);have bf:=ai.blk.kept (w':=W7) (aw.block B ai.blk.lt (λe=>bn e.symm rfl));have b7:=a0.blk.cell 0;have b2:=bf.cell 0;have f7:=bf.frozen;have l7:=bf.lt;obtain⟨na,nc,rfl⟩:=ai.row.wideV.shape;obtain⟨b4,b6,rfl⟩:=ac.wideV.shape;simp only [N1,U2] at ay ae ah aj;replace a0:=hid a0;replace ai:=hid ai;replace ae:=hid ae;replace ah:=hid ah;replace ac:=hid ac;replace al:=hid al;replace aw:=hid aw;replace ad:=hid ad;replace a4:=hid a4;replace bd:=hid bd;replace ag:=hid ag;replace aj:=hid aj;replace ay:=hid ay
   go_wp2_with (at_builtin
                refine zw rfl _ _ _ rfl rfl rfl aj.out ?_)
   go_roundw
   case rel=>exact⟨nl++ [b],_,_,by simp [hj.out],by simp [hj.out];omega,(bi.trans (bl.mono (Sub.child t j))).trans (zt.wrap az ay.out),zn bq a5 _,ah.out,ae.out⟩
   case measure=>simp [intOf];omega
  obtain rfl:n=j:=by omega
  have t3:decide ((n:Int)<(n:Int))=false:=by simp
  replace hH:=hid hH;replace an:=hid an;replace hj:=hid hj;go_wp2_with fail
  refine(zhg B _).mono ?_;rintro e w8⟨rfl,ax,bt,b0⟩;have ae:YN B sb lm fb hm n v cap nv nl t (ow'.ext wr.heap.size (λk=>k=wr.heap.size∨k=wr.heap.size+1) (t++ [19])) w8:=YN.loc _ _ _ _ _ _ _ _ _ _ _ _ _ _ _ hH.out ax.size (λk hk _=>⟨Own.ext_old hk,ax.block k hk⟩);have c8:=ae.blk.cell 5;have f8:=ae.blk.frozen;have l8:=ae.blk.lt;obtain⟨br,K,bu⟩:=ae.done hj.out hn.1 hn.2 bt b0 (Own.ext_new (by omega) (.inl rfl)) (Own.ext_new (by omega) (.inr rfl));replace ae:=hid ae;go_wp2;go_ret2
  exact⟨B,K,_,rfl,(bi.trans ⟨Mod.of_below _ ax,λk hk=>Own.ext_old hk⟩).trans br,zn (zh ao ax) a5 _,bu,a5⟩
variable {B:Nat}{K:WK}{tv:Value}{lp:Nat->Option Nat}{S:zf}{v:Int}{k0 L:Nat}{t:List Nat}{ow:Own}{w:World}
theorem zkM(l:List zr)(f:zr->Bool){k:Nat}{x:zr}(hx:l[k]?=some x):(l.take (k+1)).any f=((l.take k).any f||f x):=by
 rw [List.take_add_one,hx];simp
theorem Qk {i:Nat}(hi:i<S.nodes.length):S.nodes[i]?=some (zo S i):=by
 unfold zo;rw [N3 hi];rfl
theorem zfw(hG:zu v k0 L S)(i:Nat)(hi:i<S.nodes.length)(h:zl B K tv lp S t ow w):
 Calls prog 67 #[.pointer (some ⟨B,0,none⟩),.int .i64 (i:Nat)] w λe w'=>e=.returned (.bool (ze0 S i))/\Below w.heap.size w w':=by
 have az:=hG.n0;have hB:=h.blk;have e0:=hB.cell;have l0:=hB.lt;have y0:(0:Int)<=(i:Int):=by omega
 have y1:(i:Int)<(S.nodes.length:Int):=by omega
 have ao:∀j,j<S.nodes.length->∃b,K.nl[j]?=some b/\w.cell? ⟨K.nb,j,none⟩=some (.pointer (some ⟨b,0,none⟩))/\∀W,Below w.heap.size w W->Calls prog 97 #[.pointer (some ⟨b,0,none⟩)] W λe w'=>e=.returned (.int .i64 (yM (zo S j):Nat))/\Below W.heap.size W w':=by
  intro j hj;obtain⟨b,ah,px,sb,lb,pb,av,hN⟩:=h.node (by omega) (hG.node hj).1;refine⟨b,ah,h.nodeCell ah,λW hW=>?_⟩;have ar:=(hG.node hj).2;exact zcs (px:=px) (sb:=sb) (lb:=lb) (pb:=pb) (av:=av) b (zo S j) (t++ [j]) (by simp) ow W ((zy.loc _ _ _ _ _ _ _ _).below hN hW) ar.ok.bounds.2.2.1 ar.known
 obtain⟨b,ah,aw,an⟩:=ao i hi
 have ai:∀W,Below w.heap.size w W->Calls prog 96 #[.pointer (some ⟨b,0,none⟩)] W λr w'=>r=.returned (okV (jX (zo S i)))/\Below W.heap.size W w':=by
  intro W hW;obtain⟨b',ak,px,sb,lb,pb,av,hN⟩:=h.node (by omega) (hG.node hi).1;obtain rfl:b'=b:=by rw [ah] at ak;exact(Option.some.inj ak).symm
  exact YB (px:=px) (sb:=sb) (lb:=lb) (pb:=pb) (av:=av) b' (zo S i) (t++ [i]) ow W ((zy.loc _ _ _ _ _ _ _ _).below hN hW) (hG.eraLen hi)
 have af:ze0 S i=((jX (zo S i)).2||S.nodes.any λn=>decide (yM (zo S i)<yM n)):=rfl;obtain⟨⟨pv,ay⟩,ap⟩:∃q,jX (zo S i)=q:=⟨_,rfl⟩;obtain⟨nx,aa⟩:∃n,yM (zo S i)=n:=⟨_,rfl⟩;rw [ap] at ai af;rw [aa] at an af;unfold okV at ai;simp only at af;rw [af];replace ai:=hid ai;replace an:=hid an;replace ao:=hid ao;replace ap:=hid ap;replace aa:=hid aa;replace af:=hid af;replace ah:=hid ah;clear h
 cases ay with
 |true=>
  go_enter func67,ntmps67
  go_wp2_with fail
  refine(ai.out _ (N2 _ _)).mono ?_;rintro e w1⟨rfl,ag⟩;go_wp2;go_ret
  exact⟨rfl,ag⟩
 |false=>
  simp only [Bool.false_or]
  go_enter func67,ntmps67
  go_wp2_with fail
  refine(ai.out _ (N2 _ _)).mono ?_;rintro e w1⟨rfl,ag⟩;have e1:=(hB.call ag).cell;have c1:w1.cell? ⟨K.nb,i,none⟩=some (.pointer (some ⟨b,0,none⟩)):=(ag.cell (jO aw)).trans aw;clear e0;go_wp2_with fail
  refine(an.out _ ag).mono ?_;rintro e w2⟨rfl,ax⟩;have al:=zh ag ax;have e2:=(hB.call al).cell;clear e1 c1;go_wp2
  go_loopw [35] (λp35 wr=>∃j:Nat,p35=.int .i64 (j:Nat)/\j<=S.nodes.length/\Below w.heap.size w wr/\(S.nodes.take j).any (λn=>decide (nx<yM n))=false) (λp35 _=>S.nodes.length - (intOf p35).toNat)
  case atStart=>exact⟨0,rfl,Nat.zero_le _,al,by simp⟩
  case round=>
   obtain⟨j,rfl,hj,aj,ae⟩:=hrel;clear e2
   by_cases hjN:j<S.nodes.length
   ·have t2:decide ((j:Int)<(S.nodes.length:Int))=true:=by simpa using hjN
    have y2:(0:Int)<=(j:Int):=by omega
    have y3:(j:Int)<(S.nodes.length:Int):=by omega
    have a0:IntKind.i64.wrap ((j:Int)+1)=(j:Int)+1:=by rw [N8];omega
    obtain⟨bj, -,au,am⟩:=ao.out j hjN;have cj:wr.cell? ⟨K.nb,j,none⟩=some (.pointer (some ⟨bj,0,none⟩)):=(aj.cell (jO au)).trans au;have ad:=zkM S.nodes (λn=>decide (nx<yM n)) (Qk hjN);rw [ae,Bool.false_or] at ad;replace am:=hid am;replace ae:=hid ae
    cases hlt:decide (nx<yM (zo S j))with
    |true=>
     have t4:decide ((nx:Int)<(yM (zo S j):Int))=true:=by simpa using hlt
     have ac:S.nodes.any (λn=>decide (nx<yM n))=true:=List.any_eq_true.2 ⟨_,List.mem_of_getElem? (Qk hjN),hlt⟩;replace ad:=hid ad;replace ac:=hid ac;go_wp2_with fail
     refine(am.out _ aj).mono ?_;rintro e w3⟨rfl,aq⟩;go_wp2;go_ret
     exact⟨by rw [ac.out];rfl,zh aj aq⟩
    |false=>
     have t4:decide ((nx:Int)<(yM (zo S j):Int))=false:=by simpa using hlt
     rw [hlt] at ad;replace ad:=hid ad;go_wp2_with fail
     refine(am.out _ aj).mono ?_;rintro e w3⟨rfl,aq⟩;go_wp2
     go_roundw
     case rel=>exact⟨j+1,by simp,by omega,zh aj aq,ad.out⟩
     case measure=>simp [intOf];omega
   obtain rfl:j=S.nodes.length:=by omega
   have t2:decide ((S.nodes.length:Int)<(S.nodes.length:Int))=false:=by simp
   rw [List.take_length] at ae;replace ae:=hid ae;go_wp2;go_ret
   exact⟨by rw [ae.out];rfl,aj⟩
def zji(S:zf)(i:Nat):Bool:= !(zo S i).down && !ze0 S i
theorem QL(f:Nat->Bool)(j:Nat):(List.range (j+1)).all f=((List.range j).all f && f j):=by
 rw [List.range_succ];simp
theorem Ql(f:Nat->Bool){n j:Nat}(hj:j<n)(h:f j=false):(List.range n).all f=false:=by
 rw [List.all_eq_false];exact⟨j,List.mem_range.2 hj,by simp [h]⟩
theorem zhk(hG:zu v k0 L S)(h:zl B K tv lp S t ow w):
 Calls prog 27 #[.pointer (some ⟨B,0,none⟩)] w λe w'=>e=.returned (.bool (qP S))/\Below w.heap.size w w':=by
 have au:=hG.n0;have hB:=h.blk;have e0:=hB.cell;have al:=JY w h hG.notesN
 have an:∀j,j<S.nodes.length->∃b,w.cell? ⟨K.nb,j,none⟩=some (.pointer (some ⟨b,0,none⟩))/\∀W,Below w.heap.size w W->Calls prog 66 #[.pointer (some ⟨b,0,none⟩)] W λe w'=>e=.returned (.bool (zo S j).down)/\w'=W:=by
  intro j hj;obtain⟨b,ar,px,sb,lb,pb,av,hN⟩:=h.node (by omega) (hG.node hj).1;exact⟨b,h.nodeCell ar,λW hW=>Zq (px:=px) (sb:=sb) (lb:=lb) (pb:=pb) (av:=av) (n:=zo S j) (B:=b) W (hN.blk.call hW)⟩
 have aj:=λ(j:Nat) hj W (hW:Below w.heap.size w W)=>zfw hG j hj ((zl.loc B K tv lp S t).below h hW)
 have am:qP S=(S.notes.isEmpty &&(List.range S.nodes.length).all (zji S)):=rfl;rw [am];obtain⟨eb,ak⟩:∃b,S.notes.isEmpty=b:=⟨_,rfl⟩
 have t0:((S.notes.length:Int)==0)=eb:=by
  rw [← ak]
  cases S.notes with
  |nil=>rfl
  |cons x l=>simp;omega
 rw [ak];replace al:=hid al;replace an:=hid an;replace aj:=hid aj;replace am:=hid am;replace ak:=hid ak;clear h;refine zm func27 rfl ?_;simp only [ntmps27,R8,Nat.reduceAdd,Nat.reduceSub];go_wp2;go_step3;go_wp2_with fail
 refine al.out.mono ?_;rintro e w1⟨rfl,ap⟩;go_wp2;go_step3;have e1:=(hB.call ap).cell;clear e0;go_wp2
 go_loopw [14,3] (λp14 p3 wr=>∃j:Nat,p14=.int .i64 (j:Nat)/\p3=.bool eb/\j<=S.nodes.length/\Below w.heap.size w wr/\(List.range j).all (zji S)=true) (λp14 _ _=>S.nodes.length - (intOf p14).toNat)
 case atStart=>exact⟨0,rfl,rfl,Nat.zero_le _,ap,by simp⟩
 case round=>
  obtain⟨j,rfl,rfl,hj,ae,ac⟩:=hrel;clear e1
  by_cases hjN:j<S.nodes.length
  ·have t2:decide ((j:Int)<(S.nodes.length:Int))=true:=by simpa using hjN
   have y2:(0:Int)<=(j:Int):=by omega
   have y3:(j:Int)<(S.nodes.length:Int):=by omega
   have aw:IntKind.i64.wrap ((j:Int)+1)=(j:Int)+1:=by rw [N8];omega
   obtain⟨bj,aq,ah⟩:=an.out j hjN;have cj:wr.cell? ⟨K.nb,j,none⟩=some (.pointer (some ⟨bj,0,none⟩)):=(ae.cell (jO aq)).trans aq;have ag:=QL (zji S) j;rw [ac,Bool.true_and] at ag;have ad:=Ql (zji S) hjN;have af:zji S j=(!(zo S j).down && !ze0 S j):=rfl;replace ah:=hid ah;replace ac:=hid ac
   cases hd:(zo S j).down with
   |true=>
    have ad:=ad (by rw [af,hd];rfl);rw [hd] at ah;replace ad:=hid ad;replace ag:=hid ag;replace af:=hid af;replace hd:=hid hd;go_wp2_with fail
    refine(ah.out _ ae).mono ?_;rintro e w3⟨rfl,ai⟩;obtain rfl:=ai.symm;go_wp2;rw [Exit.noGoto_ret];exact jU (v:=.bool false) (by simp [results,Tryz.results27,go_sem]) ⟨by rw [ad.out];simp,ae⟩
   |false=>
    rw [hd] at ah
    cases hu:ze0 S j with
    |true=>
     have ad:=ad (by rw [af,hd,hu];rfl);have aa:=aj.out j hjN _ ae;rw [hu] at aa;replace aa:=hid aa;replace ad:=hid ad;replace ag:=hid ag;replace af:=hid af;replace hd:=hid hd;replace hu:=hid hu;go_wp2_with fail
     refine(ah.out _ ae).mono ?_;rintro e w3⟨rfl,ai⟩;obtain rfl:=ai.symm;go_wp2_with fail
     refine aa.out.mono ?_;rintro e w3⟨rfl,ao⟩;go_wp2;rw [Exit.noGoto_ret];exact jU (v:=.bool false) (by simp [results,Tryz.results27,go_sem]) ⟨by rw [ad.out];simp,zh ae ao⟩
    |false=>
     rw [af,hd,hu] at ag;have aa:=aj.out j hjN _ ae;rw [hu] at aa;replace aa:=hid aa;replace ag:=hid ag;replace af:=hid af;replace hd:=hid hd;replace hu:=hid hu;go_wp2_with fail
     refine(ah.out _ ae).mono ?_;rintro e w3⟨rfl,ai⟩;obtain rfl:=ai.symm;go_wp2_with fail
     refine aa.out.mono ?_;rintro e w3⟨rfl,ao⟩;go_wp2
     go_roundw
     case rel=>exact⟨j+1,by simp,rfl,by omega,zh ae ao,ag.out⟩
     case measure=>simp [intOf];omega
  obtain rfl:j=S.nodes.length:=by omega
  have t2:decide ((S.nodes.length:Int)<(S.nodes.length:Int))=false:=by simp
  replace ac:=hid ac;go_wp2;rw [Exit.noGoto_ret];exact jU (v:=.bool eb) (by simp [results,Tryz.results27,go_sem]) ⟨by rw [ac.out];simp,ae⟩
end
open Go Go.RowKit Go.Shelf Go.Extern.Stop Go.Stop Go.Extern
attribute [local go_sem] Oper.semAt_some zB zp
theorem zhl(B:Nat)(w:World):Calls prog 28 #[.pointer (some ⟨B,0,none⟩)] w λe w'=>
 e=.returned (.func (.func 68) #[] #[.pointer (some ⟨w.heap.size,0,none⟩)])/\w'=w.alloc (.cells #[.pointer (some ⟨B,0,none⟩)] 24):=by
 go_enter func28,ntmps28
 go_wp2;go_ret
 exact⟨rfl,rfl⟩
theorem zlP(i:Nat):opV (VF (0,i))=.agg #[.int .i64 9,.int .i64 (i:Nat),.int .i64 0,.int .i64 0,.int .u32 0,.string ⟨#[]⟩]:=rfl
theorem zlQ(i:Nat):opV (VF (1,i))=.agg #[.int .i64 2,.int .i64 (i:Nat),.int .i64 0,.int .i64 0,.int .u32 0,.string ⟨#[]⟩]:=rfl
theorem zjj(i:Nat):opV (VF (2,i))=.agg #[.int .i64 3,.int .i64 0,.int .i64 0,.int .i64 0,.int .u32 0,.string ⟨#[]⟩]:=rfl
def JB(J:(ZV×zf)->(Nat->Prop)->World->Prop)(s:StD)(i f:Nat)(wr:World):Prop:=∃σ X S',J σ X wr/\VG σ.2 σ.1 (2,i)/\xz s f σ.1 σ.2 S'
def zlR(s:StD)(v:Int)(qb B:Nat)(K:WK)(N:Nat)(t:List Nat)(σ:ZV×zf)(W:World):Prop:=
 Blk W qb #[.pointer (some ⟨B,0,none⟩)] 24/\σ.2.nodes.length=N/\(∃ow,zI B K σ.2 t ow W)/\(∃k L,zu v k L σ.2)/\∃f S',xz s f σ.1 σ.2 S'
theorem zhm(s:StD)(v:Int)(qb B:Nat)(K:WK)(N:Nat)(hN16:N<=16)(t:List Nat)(S0:zf):
 Qr Fence.wide 2 prog 68 #[.pointer (some ⟨qb,0,none⟩)] (λq:ZV=> #[opV (VF q)])
  (λ(σ:ZV×zf) q=>VG σ.2 σ.1 q/\zjA σ.2 q) (λσ q=>(ziT q,(doW s σ.2 (VF q)).1)) (λσ=>∃q,VG σ.2 σ.1 q/\zk1 σ.2 q)
  (zlR s v qb B K N t) ((0,0),S0):=by
 intro lp J Jx W hJ hJx hRd hY h0;obtain⟨ay,az,⟨a5,a4,a3,ar⟩, -, -⟩:=hRd _ _ _ h0;have e0:=ay.cell;have eB:=ar.blk.cell;simp only at az;rw [az] at eB;have hF:Fence.wide.fn 68:=trivial;have a1:Fence.wide.round=none:=rfl;replace ar:=hid ar;replace hY:∀σ q X W,J σ X W->VG σ.2 σ.1 q/\zjA σ.2 q->_:=hY;refine callsIn_of_wp func68 rfl hF ?_ a1;simp only [ntmps68,R8,Nat.reduceAdd,Nat.reduceSub]
 gi_wp2
 gi_loopw [11] (λp11 wr=>∃(i:Nat)(σ:ZV×zf)(X:Nat->Prop),p11=.int .i64 (i:Nat)/\i<=N/\J σ X wr/\VG σ.2 σ.1 (0,i)) (λp11 _=>N - (intOf p11).toNat)
 case atStart=>exact⟨0,_,_,rfl,Nat.zero_le _,h0,.refl _⟩
 case round=>
  obtain⟨i,σ,X,rfl,hi,ae,ac⟩:=hrel;clear e0 eB h0 ay;obtain⟨kq,hN,⟨ow,tv,lw,hI⟩,⟨k,L,hG⟩,aa⟩:=hRd _ _ _ ae;have eq:=kq.cell;have eB:=hI.blk.cell;rw [hN] at eB
  by_cases hiN:i<N
  ·have t2:decide ((i:Int)<(N:Int))=true:=by simpa using hiN
   have y0:(0:Int)<=(i:Int):=by omega
   have y1:(i:Int)<(N:Int):=by omega
   have a0:IntKind.i64.wrap ((i:Int)+1)=(i:Int)+1:=by rw [N8];omega
   obtain⟨b,au,px,sb,lb,pb,av,aw⟩:=hI.node (by omega) (hG.node (i:=i) (by omega)).1;have a2:=hI.nodeCell au;have al:=Zq (px:=px) (sb:=sb) (lb:=lb) (pb:=pb) (av:=av) (n:=zo σ.2 i) (B:=b) _ aw.blk;replace hI:=hid hI;replace hG:=hid hG;replace aw:=hid aw;replace au:=hid au
   cases hd:(zo σ.2 i).down with
   |true=>
    rw [hd] at al;have ah:zjA σ.2 (0,i):=⟨by unfold jG;rw [if_pos rfl,if_pos (by simp only;omega),if_pos hd],λh=>by cases h.1⟩;obtain⟨fn,tmps,assign,body,hy,hR⟩:=hY σ (0,i) X wr ae ⟨ac,ah⟩;simp only [zlP] at hy hR;replace al:=hid al;replace hd:=hid hd
    gi_wp2_with fail
    refine(callsIn_wide.2 al.out).mono ?_;rintro e w3⟨rfl,ax⟩;obtain rfl:=ax.symm
    gi_wp2
    refine hR.mono ?_;rintro e W'(⟨rfl,ak, -⟩|⟨rfl,ap⟩)
    ·clear hR hy
     gi_wp2
     go_roundw
     case rel=>exact⟨i+1,_,X,by simp,by omega,ak,.refl _⟩
     case measure=>simp [intOf];omega
    skip
    gi_wp2
    refine bodyPost_ret (results_none rfl _ _ _) rfl ?_;exact⟨⟨_,rfl⟩,.inr ⟨_,ap⟩⟩
   |false=>
    rw [hd] at al;have am:jG σ.2 (0,i)=some (0,i+1):=by unfold jG;rw [if_pos rfl,if_pos (by simp only;omega),if_neg (by simp only [hd];simp)]
    replace al:=hid al;replace hd:=hid hd
    gi_wp2_with fail
    refine(callsIn_wide.2 al.out).mono ?_;rintro e w3⟨rfl,ax⟩;obtain rfl:=ax.symm
    gi_wp2
    go_roundw
    case rel=>exact⟨i+1,σ,X,by simp,by omega,ae,ac.snoc am⟩
    case measure=>simp [intOf];omega
  obtain rfl:N=i:=by omega
  have t2:decide ((N:Int)<(N:Int))=false:=by simp
  have am:jG σ.2 (0,N)=some (1,0):=by unfold jG;rw [if_pos rfl,if_neg (by simp only;omega)]
  replace hI:=hid hI;replace hG:=hid hG
  gi_wp2
  gi_loopw [31] (λp31 wr=>∃(i:Nat)(σ:ZV×zf)(X:Nat->Prop),p31=.int .i64 (i:Nat)/\i<=N/\J σ X wr/\VG σ.2 σ.1 (1,i)) (λp31 _=>N - (intOf p31).toNat)
  case atStart=>exact⟨0,σ,X,rfl,Nat.zero_le _,ae,ac.snoc am⟩
  case round=>
   clear eB eq ac am ae kq hN hI hG aa hi hiN t2;obtain⟨i,σ,X,rfl,hi,ae,ac⟩:=hrel;obtain⟨kq,hN,⟨ow,tv,lw,hI⟩,⟨k,L,hG⟩,aa⟩:=hRd _ _ _ ae;have eq:=kq.cell
   by_cases hiN:i<N
   ·have t2:decide ((i:Int)<(N:Int))=true:=by simpa using hiN
    have a0:IntKind.i64.wrap ((i:Int)+1)=(i:Int)+1:=by rw [N8];omega
    have aj:=zfw hG i (by omega) hI;replace hI:=hid hI;replace hG:=hid hG
    cases hd:ze0 σ.2 i with
    |true=>
     rw [hd] at aj;have ah:zjA σ.2 (1,i):=⟨by unfold jG;rw [if_neg (by simp),if_pos rfl,if_pos (by simp only;omega),if_pos hd],λh=>by have:=h.2;simp only at this;omega⟩;obtain⟨f0,S',aa⟩:=aa;obtain⟨g0, -,ad⟩:=aa.next ac ah;replace aa:=hid aa;replace ad:=hid ad;replace aj:=hid aj;replace hd:=hid hd
     gi_wp2_with fail
     refine(callsIn_wide.2 aj.out).mono ?_;rintro e w3⟨rfl,ag⟩;have af:J σ X w3:=hJ _ _ _ _ _ ae (Mod.of_below X ag) (λk h=>.inl h);obtain⟨fn,tmps,assign,body,hy,hR⟩:=hY σ (1,i) X w3 af ⟨ac,ah⟩;simp only [zlQ] at hy hR
     gi_wp2
     refine hR.mono ?_;rintro e W'(⟨rfl,ak, -⟩|⟨rfl,ap⟩)
     ·clear hR hy
      have aq:JB J s i g0 W':=⟨_,X,S',ak,.refl _,ad.out⟩;clear ad aa eq ae af ac kq hN ak
      gi_wp2
      gi_loopw [] (λwr=>∃f,JB J s i f wr) (λwr=>least (λf=>JB J s i f wr))
      case atStart=>exact⟨g0,aq⟩
      case round=>
       obtain⟨hD,ao⟩:=Jd hrel;obtain⟨f,hf⟩:∃f,least (λf=>JB J s i f wr)=f:=⟨_,rfl⟩;rw [hf] at hD;obtain⟨σ,X,S',ae,ac,aa⟩:=hD;clear hrel ao;obtain⟨kq,hN,⟨ow,tv,lw,hI⟩,⟨k,L,hG⟩, -⟩:=hRd _ _ _ ae;have eq:=kq.cell;have ai:=JY _ hI hG.notesN;replace ai:=hid ai;replace hI:=hid hI;replace hG:=hid hG;replace aa:=hid aa;replace hf:=hid hf
       by_cases hn0:σ.2.notes.length=0
       ·have t5:decide (0<(σ.2.notes.length:Int))=false:=decide_eq_false (by omega)
        gi_wp2_with fail
        refine(callsIn_wide.2 ai.out).mono ?_;rintro e w3⟨rfl,ag⟩;have af:J σ X w3:=hJ _ _ _ _ _ ae (Mod.of_below X ag) (λk h=>.inl h)
        gi_wp2
        go_roundw
        case rel=>exact⟨i+1,σ,X,by simp,by omega,af,ac.snoc (by unfold jG;rw [if_neg (by simp),if_neg (by simp),if_pos hn0])⟩
        case measure=>simp [intOf];omega
       have t5:decide (0<(σ.2.notes.length:Int))=true:=decide_eq_true (by omega)
       have ah:zjA σ.2 (2,i):=⟨by unfold jG;rw [if_neg (by simp),if_neg (by simp),if_neg hn0],λh=>by cases h.1⟩;obtain⟨g,hg,ad⟩:=aa.out.next ac ah;replace ad:=hid ad
       gi_wp2_with fail
       refine(callsIn_wide.2 ai.out).mono ?_;rintro e w3⟨rfl,ag⟩;have af:J σ X w3:=hJ _ _ _ _ _ ae (Mod.of_below X ag) (λk h=>.inl h);obtain⟨fn,tmps,assign,body,hy,hR⟩:=hY σ (2,i) X w3 af ⟨ac,ah⟩;simp only [zjj] at hy hR
       gi_wp2
       refine hR.mono ?_;rintro e W'(⟨rfl,ak, -⟩|⟨rfl,ap⟩)
       ·clear hR hy
        have an:JB J s i g W':=⟨_,X,S',ak,.refl _,ad.out⟩
        gi_wp2
        go_roundw
        case rel=>exact⟨g,an⟩
        case measure=>exact Nat.lt_of_le_of_lt ((Jd ⟨g,an⟩).2 g an) (by rw [hf.out];omega)
       skip
       gi_wp2
       refine bodyPost_ret (results_none rfl _ _ _) rfl ?_;exact⟨⟨_,rfl⟩,.inr ⟨_,ap⟩⟩
     skip
     gi_wp2
     refine bodyPost_ret (results_none rfl _ _ _) rfl ?_;exact⟨⟨_,rfl⟩,.inr ⟨_,ap⟩⟩
    |false=>
     rw [hd] at aj;have am:jG σ.2 (1,i)=some (2,i):=by unfold jG;rw [if_neg (by simp),if_pos rfl,if_pos (by simp only;omega),if_neg (by simp only [hd];simp)]
     obtain⟨f0,S',aa⟩:=aa;replace aa:=hid aa;replace aj:=hid aj;replace hd:=hid hd
     gi_wp2_with fail
     refine(callsIn_wide.2 aj.out).mono ?_;rintro e w3⟨rfl,ag⟩;have af:J σ X w3:=hJ _ _ _ _ _ ae (Mod.of_below X ag) (λk h=>.inl h);have aq:JB J s i f0 w3:=⟨_,X,S',af,ac.snoc am,aa.out⟩;clear aa eq ae af ac am kq hN
     gi_wp2
     gi_loopw [] (λwr=>∃f,JB J s i f wr) (λwr=>least (λf=>JB J s i f wr))
     case atStart=>exact⟨f0,aq⟩
     case round=>
      obtain⟨hD,ao⟩:=Jd hrel;obtain⟨f,hf⟩:∃f,least (λf=>JB J s i f wr)=f:=⟨_,rfl⟩;rw [hf] at hD;obtain⟨σ,X,S',ae,ac,aa⟩:=hD;clear hrel ao;obtain⟨kq,hN,⟨ow,tv,lw,hI⟩,⟨k,L,hG⟩, -⟩:=hRd _ _ _ ae;have eq:=kq.cell;have ai:=JY _ hI hG.notesN;replace ai:=hid ai;replace hI:=hid hI;replace hG:=hid hG;replace aa:=hid aa;replace hf:=hid hf
      by_cases hn0:σ.2.notes.length=0
      ·have t5:decide (0<(σ.2.notes.length:Int))=false:=decide_eq_false (by omega)
       gi_wp2_with fail
       refine(callsIn_wide.2 ai.out).mono ?_;rintro e w3⟨rfl,ag⟩;have af:J σ X w3:=hJ _ _ _ _ _ ae (Mod.of_below X ag) (λk h=>.inl h)
       gi_wp2
       go_roundw
       case rel=>exact⟨i+1,σ,X,by simp,by omega,af,ac.snoc (by unfold jG;rw [if_neg (by simp),if_neg (by simp),if_pos hn0])⟩
       case measure=>simp [intOf];omega
      have t5:decide (0<(σ.2.notes.length:Int))=true:=decide_eq_true (by omega)
      have ah:zjA σ.2 (2,i):=⟨by unfold jG;rw [if_neg (by simp),if_neg (by simp),if_neg hn0],λh=>by cases h.1⟩;obtain⟨g,hg,ad⟩:=aa.out.next ac ah;replace ad:=hid ad
      gi_wp2_with fail
      refine(callsIn_wide.2 ai.out).mono ?_;rintro e w3⟨rfl,ag⟩;have af:J σ X w3:=hJ _ _ _ _ _ ae (Mod.of_below X ag) (λk h=>.inl h);obtain⟨fn,tmps,assign,body,hy,hR⟩:=hY σ (2,i) X w3 af ⟨ac,ah⟩;simp only [zjj] at hy hR
      gi_wp2
      refine hR.mono ?_;rintro e W'(⟨rfl,ak, -⟩|⟨rfl,ap⟩)
      ·clear hR hy
       have an:JB J s i g W':=⟨_,X,S',ak,.refl _,ad.out⟩
       gi_wp2
       go_roundw
       case rel=>exact⟨g,an⟩
       case measure=>exact Nat.lt_of_le_of_lt ((Jd ⟨g,an⟩).2 g an) (by rw [hf.out];omega)
      skip
      gi_wp2
      refine bodyPost_ret (results_none rfl _ _ _) rfl ?_;exact⟨⟨_,rfl⟩,.inr ⟨_,ap⟩⟩
   obtain rfl:N=i:=by omega
   have t2:decide ((N:Int)<(N:Int))=false:=by simp
   replace hI:=hid hI;replace hG:=hid hG
   gi_wp2
   go_end0
   exact⟨⟨_,rfl⟩,.inl ⟨σ,X,⟨_,ac,rfl,by simp only;omega⟩,ae⟩⟩
def zmq(Ds:List Nat):List Deferred:=Ds.map λD=> {target:=.collected D,args:=#[] }
def Qm(Ds:List Nat)(W:World):World:=Ds.foldl (λW D=>W.putObj D (.deferred none)) W
def zew(n0:Nat)(ow:Own)(Ds:List Nat)(W:World):Prop:=Ds.Nodup/\∀D∈Ds,n0<=D/\D<W.heap.size/\ow D=[] /\W.heap[D]?=some (.deferred (some []))
theorem zew.step {n0:Nat}{t:List Nat}(ht:t≠ []){ow ow':Own}{Ds:List Nat}{W W':World}(h:zew n0 ow Ds W)(hs:zt t ow W ow' W'):zew n0 ow' Ds W':=
 ⟨h.1,λD hD=>by
  obtain⟨h1,h2,h3,h4⟩:=h.2 D hD
  exact⟨h1,Nat.lt_of_lt_of_le h2 hs.size,by rw [hs.agree D h2];exact h3,(hs.block h2 (by rw [h3];exact zj ht)).trans h4⟩⟩
theorem zew.cons {n0:Nat}{ow:Own}{Ds:List Nat}{W:World}(h:zew n0 ow Ds W){D:Nat}(hD:∀x∈Ds,x<D)(h1:n0<=D)(h2:D<W.heap.size)(h3:ow D=[])(h4:W.heap[D]?=some (.deferred (some []))):zew n0 ow (D::Ds) W:=
 ⟨List.nodup_cons.2 ⟨λhm=>by have:=hD D hm;omega,h.1⟩,λx hx=>by
  rcases List.mem_cons.1 hx with rfl|hx
  ·exact⟨h1,h2,h3,h4⟩
  exact h.2 x hx⟩
theorem Qn {P:Program}{fn:Func}{R:Ending->World->Prop}{tmps:Array Value}{v:Value}{m:Nat} :∀(Ds:List Nat)(W:World),Ds.Nodup->(∀D∈Ds,W.heap[D]?=some (.deferred (some [])))->(results fn tmps).run P (Qm Ds W)=.ok v (Qm Ds W)->R (.returned v) (Qm Ds W)->
 LeavesInM Fence.wide m P fn tmps R (zmq Ds) .returning W
 | [],W,_,_,hr,hR=>⟨v,hr,hR⟩
 |D::Ds,W,hn,hD,hr,hR=>by
  refine⟨by simp,.inl ⟨D,_,rfl,run_takeDeferred (hD D (by simp)),?_⟩⟩;rw [List.nodup_cons] at hn;refine Qn Ds _ hn.2 (λx hx=>?_) hr hR;have hxd:x≠D:=λe=>hn.1 (e ▸ hx)
  rw [U1 hxd];exact hD x (by simp [hx])
theorem Vi {t:List Nat}(ht:t≠ []){A:Own->World->Prop}(hA:yI t A){n0:Nat}{ow0 ow:Own}{W0:World}(hn0:n0=W0.heap.size):∀(Ds:List Nat)(W:World),(∀D∈Ds,n0<=D/\ow D=[])->A ow W->zt t ow0 W0 ow W->A ow (Qm Ds W)/\zt t ow0 W0 ow (Qm Ds W)
 | [],W,_,h,hs=>⟨h,hs⟩
 |D::Ds,W,hD,h,hs=>by
  have h1:=hD D (by simp);exact Vi ht hA hn0 Ds _ (λx hx=>hD x (by simp [hx])) (hA.put ht h h1.2 _) (hs.putNew D _ (by omega))
structure OnW(t:List Nat)(ow:Own)(W0:World)(A:Own->World->Prop)(ow':Own)(X:Nat->Prop)(W:World):Prop where
 is:A ow' W
 st:zt t ow W0 ow' W
 xs:∀k,X k->W0.heap.size<=k/\k<W.heap.size/\ow' k=[]
theorem OnW.stab {t:List Nat}(ht:t≠ []){ow:Own}{W0:World}{A:Own->World->Prop}(hA:yI t A){ow':Own}{X X':Nat->Prop}{W W':World}(h:OnW t ow W0 A ow' X W)(hm:Mod X W W')(hx:∀k,X' k->X k∨(W.heap.size<=k/\k<W'.heap.size)):OnW t ow W0 A (ow'.cut W) X' W' where
 is:=hA _ _ _ _ h.is hm.size (λk hk hs=>⟨Own.cut_old hk,hm.block k hk (λhX=>by rw [(h.xs k hX).2.2] at hs;exact zj ht hs)⟩)
 st:=⟨h.st.mod.trans hm (λ_ _ e=>e) (λk hk e=>by have:=(h.xs k e).1;omega),λk hk=>(Own.cut_old (by have:=h.st.size;omega)).trans (h.st.agree k hk)⟩
 xs:=λk hk=>by
  have hs:=hm.size
  rcases hx k hk with h1|h1
  ·have h2:=h.xs k h1
   exact⟨h2.1,by omega,by rw [Own.cut_old h2.2.1];exact h2.2.2⟩
  exact⟨by have:=h.st.size;omega,by omega,Own.cut_new h1.1⟩
theorem OnW.step {t:List Nat}{ow:Own}{W0:World}{A A':Own->World->Prop}{ow1 ow2:Own}{X:Nat->Prop}{W W':World}(h:OnW t ow W0 A ow1 X W)(hs:zt t ow1 W ow2 W')(hn:A' ow2 W'):OnW t ow W0 A' ow2 X W' where
 is:=hn
 st:=h.st.trans hs
 xs:=λk hk=>by
  have h2:=h.xs k hk;exact⟨h2.1,by have:=hs.size;omega,by rw [hs.agree k h2.2.1];exact h2.2.2⟩
theorem OnW.saves {t:List Nat}(ht:t≠ []){ow:Own}{W0:World}{A:Own->World->Prop}{ow1 ow2:Own}{X:Nat->Prop}{W W':World}(h:OnW t ow W0 A ow1 X W)(hs:zt t ow1 W ow2 W'):jJ X W W':=
 ⟨hs.size,λk hX hk=>hs.block hk (by rw [(h.xs k hX).2.2];exact zj ht)⟩
theorem zjk(q:ZV):zmm (VF q):=by
 unfold VF
 split
 ·exact⟨by simp,by simp,by simp⟩
 split
 ·exact⟨by simp,by simp,by simp⟩
 exact⟨by simp,by simp,by simp⟩
theorem zc6(q:ZV):zcF (VF q).kind:=by
 unfold VF zcF
 split
 ·exact .inr (.inr (.inr (.inl rfl)))
 split
 ·exact .inr (.inl rfl)
 exact .inr (.inr (.inl rfl))
theorem zjl {S:zf}{q:ZV}(hy:zjA S q):(VF q).kind≠3->0<=(VF q).node/\(VF q).node<S.nodes.length:=by
 obtain⟨h1,h2⟩:=hy;unfold jG at h1;unfold zk1 at h2;unfold VF
 split
 ·rename_i h0
  rw [if_pos h0] at h1;intro _
  by_cases hl:q.2<S.nodes.length
  ·simp only;omega
  rw [if_neg hl] at h1;cases h1
 split
 ·intro _;simp only;omega
 intro h;exact absurd rfl h
theorem zjm(s:StD)(S:zf)(v:Int)(k L:Nat)(hs:s=zk v)(hG:zu v k L S)(hL:L<=3000000000)(q:ZV):zu v (k+1) (L+16) (doW s S (VF q)).1:=by
 rw [hs];exact hG.doesA hL _ (zjk q).len (zc6 q)
theorem yD(S:zf)(i:Nat)(n:zr):(setNode S i n).nodes.length=S.nodes.length:=by unfold setNode;simp
theorem J1(S:zf)(kind src inst:Int)(b:Nat)(more:List UInt8):(j9 S kind src inst b more).nodes.length=S.nodes.length:=by
 unfold j9
 generalize List.range S.nodes.length=js
 induction js generalizing S with
 |nil=>rfl
 |cons j js ih=>rw [List.foldl_cons,ih,(x9 _ _).1]
theorem zex(S:zf)(i:Nat):(yw S i).1.nodes.length=S.nodes.length:=by
 unfold yw
 split
 ·rfl
 split
 ·rfl
 rw [J1];rfl
theorem VS(S:zf)(i src:Nat)(inst:Int)(b:Nat)(more:List UInt8):(countPromise S i src inst b more).nodes.length=S.nodes.length:=by
 unfold countPromise
 split
 ·rfl
 split
 ·rfl
 simp only
 split
 ·rfl
 split
 ·rfl
 rw [J1]
theorem zbo(S:zf)(i src:Nat)(inst:Int)(b:Nat):(countVote S i src inst b).nodes.length=S.nodes.length:=by
 unfold countVote
 split
 ·rfl
 split
 ·rfl
 simp only
 split
 ·rfl
 rw [J1]
theorem zhn(S:zf)(i:Nat)(f:y8)(inst:Int)(b:Nat)(more:List UInt8):(yZ S i f inst b more).nodes.length=S.nodes.length:=by
 unfold yZ
 split
 ·rw [(x9 _ _).1]
 split
 ·simp only
  split
  ·rw [(x9 _ _).1,yD]
  rw [yD]
 simp only
 split
 ·rw [(x9 _ _).1,yD]
 rw [yD]
theorem zey(S:zf)(i:Nat)(f:y8):(yN S i f).nodes.length=S.nodes.length:=by
 unfold yN
 split
 ·rfl
 simp only
 split
 ·exact zhn _ _ _ _ _ _
 split
 ·exact VS _ _ _ _ _ _
 split
 ·exact zbo _ _ _ _ _
 split
 ·rw [yD];rfl
 rfl
theorem zkN(S:zf)(p:Int):(xR S p).1.nodes.length=S.nodes.length:=by
 unfold xR
 split
 ·rfl
 split
 ·rfl
 simp only
 split
 ·rw [zey]
 rfl
theorem zkO(S:zf)(p:Int):(zlp S p).1.nodes.length=S.nodes.length:=by
 unfold zlp
 split
 ·rfl
 split<;>rfl
theorem zkP(S:zf)(p:Int):(zlq S p).1.nodes.length=S.nodes.length:=by
 unfold zlq
 split
 ·rfl
 split
 ·rfl
 simp only
 split
 ·rfl
 split
 ·show(yB _ _ _).1.nodes.length=_
  rw [(qD _ _ _).1]
 rw [(qD _ _ _).1]
theorem zkQ(S:zf)(p b:Int)(m:Nat):(zlr S p b m).1.nodes.length=S.nodes.length:=by
 unfold zlr
 split
 ·rfl
 split
 ·rfl
 split
 ·rfl
 split<;>rfl
theorem zfx(S:zf):(vq S).nodes.length=S.nodes.length:=by
 unfold vq;rw [qp,qp]
theorem zfy(s:StD)(S:zf)(o:OpD):(yg S s o).1.nodes.length=S.nodes.length:=by
 unfold yg;simp only
 split
 ·rw [yD];rfl
 split
 ·exact zex _ _
 split
 ·exact zkN _ _
 split
 ·exact zkO _ _
 split
 ·exact zkP _ _
 split
 ·exact zkQ _ _ _ _
 split
 ·rw [yD]
 split
 ·rw [yD]
 split
 ·rw [yD];rfl
 split
 ·rw [yD]
 rfl
theorem JC(s:StD)(S:zf)(o:OpD):(doW s S o).1.nodes.length=S.nodes.length:=by
 unfold doW
 split
 ·rfl
 split
 ·rfl
 simp only
 split
 ·show(vq _).nodes.length=_
  rw [zfx,zfy]
 rw [zfx,zfy]
