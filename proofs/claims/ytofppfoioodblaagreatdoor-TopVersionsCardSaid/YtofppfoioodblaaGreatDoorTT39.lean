/- PARTS OF THE PROOF. -/
import Derived.Test.YtofppfoioodblaaGreatDoorTT37
import Derived.Test.YtofppfoioodblaaGreatDoorTT38
set_option maxRecDepth 8000
set_option maxHeartbeats 4000000
open Go.Proofs.Tryz
namespace Go.Proofs.YtofppfoioodblaaGreatDoor
open Go Go.RowKit Go.Shelf Go.Extern.Stop Go.Stop Go.Extern
attribute [local go_sem] Oper.semAt_some zv zm
theorem zlj:Yc prog 172 317 3 32 (.agg #[.int .u64 0,.int .u64 0,.string ⟨#[]⟩]):=⟨Tryz.underlying172,by kernel_rfl,rfl,by decide,by decide⟩
theorem zaq(l:List jl):∀u∈l.flatMap zK,u.oneCell'=true:=by
 intro u hu;obtain⟨m,_,hm⟩:=List.mem_flatMap.1 hu;simp only [zK,List.mem_cons,List.mem_nil_iff,or_false] at hm
 rcases hm with rfl|rfl|rfl<;>rfl
theorem zhI(l:List jl)(own:List UInt8)(ho:own.length<=4000)(h:l.all j7=true):(JV l own).2.2.length<=4000:=by
 have h':∀x∈l,x.2.2.length<=4000:=λx hx=>by
  have:=List.all_eq_true.1 h x hx;unfold j7 at this;simp only [Bool.and_eq_true,decide_eq_true_eq] at this;exact this.2
 clear h;unfold JV
 suffices H:∀(l:List jl)(b:jl),b.2.2.length<=4000->(∀x∈l,x.2.2.length<=4000)->(l.foldl (λ(b:jl) v=>if b.2.1<v.2.1 then v else b) b).2.2.length<=4000 from H l (0,0,own) ho h'
 intro l
 induction l with
 |nil=>intro b hb _;exact hb
 |cons x l ih=>
  intro b hb hl;refine ih _ ?_ (λy hy=>hl y (by simp [hy]))
  show(if b.2.1<x.2.1 then x else b).2.2.length<=4000
  split
  ·exact hl x (by simp)
  ·exact hb
theorem zfO(n:Nat)(l:List jl)(own:List UInt8):(qI n l own).1.length<=4000:=by
 unfold qI
 split
 ·simp
 ·split
  ·simp
  ·rename_i h2
   exact zhI l own (by omega) (by by_cases h:l.all j7=true;exact h;exact absurd (.inl (by simpa using h)) h2)
theorem zar {pv:Value}{l:j8}(x:List UInt8):(zE pv l).set 2 (.string (bs x))=zE pv {l with value:=x} :=rfl
theorem XW {pv:Value}{l:j8}(pv':Value):(zE pv l).set 3 pv'=zE pv' l:=rfl
theorem zdm {lb:Nat}{l:j8}{x:jl}{pv pv':Value}{u:List Nat}{ow:Own}{W W7:World}(hB:Blk W lb (zE pv l).toArray 175)(hR:Row W 317 3 pv l.promises.length (l.promises.flatMap zK))(o1:ow lb=u)(o2:∀g,pv.ownBlock=some g->ow g=u)
 (hrow:Row W7 317 3 pv' (l.promises.length+ [x].length) (l.promises.flatMap zK++ [x].flatMap zK)) (hgr:W.grownBy W7 pv.ownBlock) (hown:pv'.ownBlock=pv.ownBlock∨pv'.ownBlock=some W.heap.size) (h1:l.promised.length=16) (h2:l.voted.length=16):
 Blk W7 lb (zE pv l).toArray 175/\zq u ow W (ow.ext W.heap.size (λk=>pv'.ownBlock=some k) u) (W7.setCell ⟨lb,3,none⟩ pv')/\Blk (W7.setCell ⟨lb,3,none⟩ pv') lb (zE pv' {l with promises:=l.promises++ [x] }).toArray 175/\Row (W7.setCell ⟨lb,3,none⟩ pv') 317 3 pv' (l.promises++ [x]).length ((l.promises++ [x]).flatMap zK)/\
  (ow.ext W.heap.size (λk=>pv'.ownBlock=some k) u) lb=u/\(∀g,pv'.ownBlock=some g->(ow.ext W.heap.size (λk=>pv'.ownBlock=some k) u) g=u)/\JR lb {l with promises:=l.promises++ [x] } u (ow.ext W.heap.size (λk=>pv'.ownBlock=some k) u) (W7.setCell ⟨lb,3,none⟩ pv'):=by
 have hneB:∀g,pv.ownBlock=some g->g≠lb:=λg hg=>hR.ne_blk hB (by decide) hg
 have lB:=hB.lt;have k7:Blk W7 lb (zE pv l).toArray 175:=hB.kept (hgr.block lb lB (λe=>hneB lb e.symm rfl));have k8:Blk (W7.setCell ⟨lb,3,none⟩ pv') lb (zE pv' {l with promises:=l.promises++ [x] }).toArray 175:=k7.setL (XW pv')
 have hg5:∀g,pv'.ownBlock=some g->(pv.ownBlock=some g∨g=W.heap.size):=λg hg=>by
  rw [hg] at hown
  rcases hown with h|h
  ·exact .inl h.symm
  ·right;simpa using h
 have r8:Row (W7.setCell ⟨lb,3,none⟩ pv') 317 3 pv' (l.promises++ [x]).length ((l.promises++ [x]).flatMap zK):=by
  simp only [N1,U5];refine hrow.kept (λg hg=>N4 _ _ _ _ (λe=>?_));have e':g=lb:=e;subst e'
  rcases hg5 g hg with h|h
  ·exact hneB g h rfl
  ·omega
 have p1:(ow.ext W.heap.size (λk=>pv'.ownBlock=some k) u) lb=u:=by rw [Own.ext_old lB,o1]
 have p2:∀g,pv'.ownBlock=some g->(ow.ext W.heap.size (λk=>pv'.ownBlock=some k) u) g=u:=by
  intro g hg
  rcases hg5 g hg with h|h
  ·rw [Own.ext_old (hR.lt h),o2 g h]
  ·rw [Own.ext_new (by omega) hg]
 refine⟨k7,⟨?_,λk hk=>Own.ext_old hk⟩,k8,r8,p1,p2,h1,h2,pv',k8,r8,p1,p2⟩;exact(Mod.grown (X:=λk=>Sub u (ow k)) hgr (λk h=>by rw [o2 k h];exact Sub.rfl' u)).thenSet (p:=⟨lb,3,none⟩) (by simp only [o1];exact Sub.rfl' u) _
theorem Vc(B:Nat)(K:WK)(S:zf)(t:List Nat)(ht:t≠ [])(ow:Own)(i src:Nat)(hi:i<16)(hsrc:src<16)(inst:Int)(ballot:Nat)(more:List UInt8)(hmr:more.length<=1000000)(w:World)(h:zL B K S t ow w)(hg:zal S)(hlv:∀l,zD (i:Int) S.leads=some l->l.promises.length<=900):
 Calls prog 152 #[.pointer (some ⟨B,0,none⟩),.int .i64 i,.int .i64 src,xE inst ballot,.string (bs more)] w (xZ B K (countPromise S i src inst ballot more) t ow w (.tuple #[])):=by
 obtain⟨tv,lp,hI⟩:=h;have hb1:Below w.heap.size w (w.alloc (.cells #[.int .i64 inst,.int .u64 (ballot:Nat)] 171)):=pbx;have hI1:=(zk.loc B K tv lp S t).cut hI hb1;have km:Blk (w.alloc (.cells #[.int .i64 inst,.int .u64 (ballot:Nat)] 171)) w.heap.size #[.int .i64 inst,.int .u64 (ballot:Nat)] 171:=Blk.new rfl;have hom:(ow.cut w) w.heap.size=[]:=Own.cut_new (N0 _);have hld:=λW hW=>Xm (B:=B) (K:=K) (tv:=tv) (lp:=lp) (S:=S) (t:=t) (ow:=ow.cut w) i inst ballot W hW
 obtain⟨ow1,ho1⟩:∃o,ow.cut w=o:=⟨_,rfl⟩;have hst0:zq t ow1 w ow1 w:=zq.refl _ _ _;rw [ho1] at hI1 hom hld;unfold xE at*;clear hI
 cases hbb:YY S i inst ballot with
 |false=>
  have hcv:countPromise S i src inst ballot more=S:=by
   unfold countPromise;unfold YY at hbb
   cases hl:zD (i:Int) S.leads with
   |none=>rfl
   |some l=>
    rw [hl] at hbb;simp only at hbb⊢;rw [if_pos]
    by_cases h1:l.inst=inst
    ·right;left;intro h2;simp [h1,h2] at hbb
    ·left;exact h1
  rw [hcv];rw [hbb] at hld;replace hld:=hid hld;clear hcv hbb
  go_enter func152,ntmps152
  go_wp2_with fail
  refine(hld.out _ hI1).mono ?_;rintro e w2⟨rfl,hb2⟩;have hI2:=(zk.loc B K tv lp S t).below hI1 hb2;have hbw2:=zg hb1 hb2;go_wp2;go_end0
  exact⟨rfl,ow1,zq.wrap hbw2 (by rw [ho1];exact zq.refl _ _ _),tv,lp,hI2⟩
 |true=>
  obtain⟨l,hl,hli,hlb⟩:∃l,zD (i:Int) S.leads=some l/\l.inst=inst/\l.ballot=ballot:=by
   unfold YY at hbb
   cases hl:zD (i:Int) S.leads with
   |none=>rw [hl] at hbb;cases hbb
   |some l=>rw [hl] at hbb;simp at hbb;exact⟨l,rfl,hbb.1,hbb.2⟩
  obtain⟨lb,hlp,h1,h2,pv,hLB0,hLR0,o1,o2⟩:=hI1.leadAt hl;rw [hbb,hlp] at hld;unfold zk6 at hld;simp only [Option.map_some] at hld;obtain⟨num,hnum⟩:∃x,zW more 0+4294967296*zW more 4=x:=⟨_,rfl⟩
  have hcv:countPromise S i src inst ballot more=if l.asked∨l.promised[src]?.getD false∨more.length<8 then S
   else if 2*(l.promises.length+1)<=S.nodes.length then {S with leads:=put (i:Int) {l with promised:=l.promised.set src true,promises:=l.promises++ [(ballot,num,more.drop 8)] } S.leads}
   else if(qI S.nodes.length (l.promises++ [(ballot,num,more.drop 8)]) l.value).2≠0 then {S with leads:=put (i:Int) {l with promised:=l.promised.set src true,promises:=l.promises++ [(ballot,num,more.drop 8)] } S.leads}
   else j0 {S with leads:=put (i:Int) {l with promised:=l.promised.set src true,promises:=l.promises++ [(ballot,num,more.drop 8)],asked:=true,value:=(qI S.nodes.length (l.promises++ [(ballot,num,more.drop 8)]) l.value).1} S.leads} 5 i inst ballot (qI S.nodes.length (l.promises++ [(ballot,num,more.drop 8)]) l.value).1:=by
   unfold countPromise;rw [hl,← hnum];simp only
   by_cases hc:l.asked∨l.promised[src]?.getD false∨more.length<8
   ·rw [if_pos (.inr (.inr hc)),if_pos hc]
   ·rw [if_neg hc,if_neg (by rw [hli,hlb];simp only [ne_eq,not_true_eq_false,false_or];exact hc)]
    simp only [N1,U2]
  have hlv2:=hlv l hl;have hpr:=XU (pv:=pv) h1 hsrc;have hak:=y6 (pv:=pv) h1 h2 1;obtain⟨vd,hvd⟩:∃b,l.promised[src]?.getD false=b:=⟨_,rfl⟩;rw [hvd] at hpr hcv;have y0:(0:Int)<=(src:Int):=by omega
  have y1:(src:Int)<16:=by omega
  replace hld:=hid hld;replace hvd:=hid hvd;replace hlv:=hid hlv;replace hbb:=hid hbb;replace hl:=hid hl;replace hlp:=hid hlp;replace o2:=hid o2;have hsz:=zJ more
  by_cases hc:l.asked=true∨vd=true∨more.length<8
  ·rw [if_pos hc] at hcv
   rw [hcv];replace hcv:=hid hcv
   cases htd:l.asked with
   |true=>
    replace hsz:=hid hsz;clear hc hmr
    go_enter func152,ntmps152
    go_wp2_with fail
    refine(hld.out _ hI1).mono ?_;rintro e w2⟨rfl,hb2⟩;have hI2:=(zk.loc B K tv lp S t).below hI1 hb2;have hbw2:=zg hb1 hb2;have c38:=(hLB0.call hb2).cellL hak;simp only [Nat.reduceAdd,htd] at c38;go_wp2;go_end0
    exact⟨rfl,ow1,zq.wrap hbw2 (by rw [ho1];exact zq.refl _ _ _),tv,lp,hI2⟩
   |false=>
    rw [htd] at hc
    cases vd with
    |true=>
     replace hsz:=hid hsz;clear hc hmr
     go_enter func152,ntmps152
     go_wp2_with fail
     refine(hld.out _ hI1).mono ?_;rintro e w2⟨rfl,hb2⟩;have hI2:=(zk.loc B K tv lp S t).below hI1 hb2;have hbw2:=zg hb1 hb2;have c38:=(hLB0.call hb2).cellL hak;have c20:=(hLB0.call hb2).cellL hpr;simp only [Nat.reduceAdd,htd] at c38;go_wp2;go_end0
     exact⟨rfl,ow1,zq.wrap hbw2 (by rw [ho1];exact zq.refl _ _ _),tv,lp,hI2⟩
    |false=>
     have h8:more.length<8:=by simpa using hc
     have t8:decide (((bs more).size:Int)<8)=true:=by rw [hsz];simp;omega
     replace hsz:=hid hsz;clear hc h8 hmr
     go_enter func152,ntmps152
     go_wp2_with fail
     refine(hld.out _ hI1).mono ?_;rintro e w2⟨rfl,hb2⟩;have hI2:=(zk.loc B K tv lp S t).below hI1 hb2;have hbw2:=zg hb1 hb2;have c38:=(hLB0.call hb2).cellL hak;have c20:=(hLB0.call hb2).cellL hpr;simp only [Nat.reduceAdd,htd] at c38;go_wp2;go_end0
     exact⟨rfl,ow1,zq.wrap hbw2 (by rw [ho1];exact zq.refl _ _ _),tv,lp,hI2⟩
  ·rw [if_neg hc] at hcv
   rw [not_or,not_or] at hc;have htd:l.asked=false:=by simpa using hc.1
   have hvf:vd=false:=by simpa using hc.2.1
   have h8:8<=more.length:=by omega
   have t8:decide ((more.length:Int)<8)=false:=by simp;omega
   have hget:=λW=>zeg more h8 hmr W
   have hex:=jk more 8;rw [hsz] at hex;have t9:(8:Int)<=(more.length:Int):=by omega
   rw [hnum] at hget;subst hvf;replace hget:=hid hget;replace hcv:=hid hcv;clear hc
   go_enter func152,ntmps152
   go_wp2_with fail
   refine(hld.out _ hI1).mono ?_;rintro e w2⟨rfl,hb2⟩;have hI2:=(zk.loc B K tv lp S t).below hI1 hb2;have hbw2:=zg hb1 hb2;have hLB2:=hLB0.call hb2;have c38:=hLB2.cellL hak;have c20:=hLB2.cellL hpr;have f2:=hLB2.frozen;have l2:=hLB2.lt;simp only [Nat.reduceAdd,htd] at c38;go_wp2_with fail
   obtain⟨w3,hw3⟩:∃w3,w3=w2.setCell ⟨lb,4+src,none⟩ (.bool true):=⟨_,rfl⟩;have hM3:Mod (λk=>k=lb) w2 w3:=by rw [hw3];exact(Mod.refl (λk=>k=lb) w2).thenSet (p:=⟨lb,4+src,none⟩) rfl _
   have hLB3:Blk w3 lb (zE pv {l with promised:=l.promised.set src true}).toArray 175:=by
    rw [hw3];exact hLB2.setL (zbQ h1 hsrc true)
   rw [← hw3];clear hw3 c38 c20 f2 l2;obtain⟨l3,hl3⟩:∃x:j8,x={l with promised:=l.promised.set src true} :=⟨_,rfl⟩;have h13:l3.promised.length=16:=by rw [hl3];simpa using h1
   have h23:l3.voted.length=16:=by rw [hl3];exact h2
   have hp3:l3.promises=l.promises:=by rw [hl3]
   have hv3:l3.value=l.value:=by rw [hl3]
   rw [← hl3] at hLB3;obtain⟨hs3,hL3⟩:=ZA (l':=l3) hLB2 (hLR0.below hb2) o1 o2.out hM3 hLB3 hp3 h13 h23
   have hLR3:Row w3 317 3 pv l3.promises.length (l3.promises.flatMap zK):=by
    rw [hp3];exact(hLR0.below hb2).mod hM3 (λg hg e=>(hLR0.below hb2).ne_blk hLB2 (by decide) hg e)
   have hI3:=hI2.setLead hlp.out hs3 hL3;have hmk:lb≠w.heap.size:=λe=>by rw [e,hom] at o1;simp at o1
   have km3:=(km.call hb2).kept (hM3.block _ (km.call hb2).lt (λe=>hmk e.symm));have hs13:zq t ow1 (w.alloc (.cells #[.int .i64 inst,.int .u64 (ballot:Nat)] 171)) ow1 w3:=(zq.of_below t ow1 hb2).trans (hs3.mono (Sub.child t (i+32)));have c33:w3.cell? ⟨lb,3,none⟩=some pv:=hLB3.cell 3;have m31:=km3.cell;have fr3:=hLB3.frozen;have lt3:=hLB3.lt;have hpvL:=hLR3;obtain⟨pa,pc,rfl⟩:=hLR3.wideV.shape;replace hl3:=hid hl3;replace hv3:=hid hv3;replace hp3:=hid hp3;replace hLR3:=hid hLR3;replace hLR0:=hid hLR0;clear hpvL hpr hak hlv2 hLB0 hLB2 hI1 hI2 hL3 hM3;refine zd [O 0,O 1,O 2,O 3,O 4,O 5,O 6,O 7,O 9,O 10,E 8,E 11,E 12,E 13,O 14,O 15,E 16] (some 16) (λw'=>w'.cell? ⟨lb,3,none⟩=some (.slice pa l3.promises.length pc)/\Blk w' w.heap.size #[.int .i64 inst,.int .u64 (ballot:Nat)] 171/\True) (by kernel_rfl) (by kernel_rfl) ⟨c33,km3.drew,trivial⟩ ?_
   (repeat (refine za (v:=?_) rfl rfl (λw' h=>?_) (λK k=>?_);rotate_left;obtain⟨f1,f2,f3,_⟩:=h;(try have e1:=f1.cell);(try have e2:=f2.cell);(try have e3:=f3.cell);go_simp;(try with_reducible rfl);go_simp;refine k _ ?_;clear k K))
   refine zc rfl (λJ hJ=>?_);go_wp2_with fail
   refine(hget.out _).mono ?_;rintro e w4⟨rfl,hb4⟩;have hb34:Below w3.heap.size w3 w4:=zg (zo (N2 _ _)) hb4;have c43:=(hLB3.call hb34).cell 3;have km4:=km3.call hb34;go_wp2;refine hJ.out _ _ (λ_=>⟨c43,km4,trivial⟩) ?_;clear hJ J;refine zc rfl (λJ hJ=>?_);go_wp2;refine hJ.out _ _ (λ_=>⟨c43,km4.drew,trivial⟩) ?_;clear hJ J;refine zc rfl (λJ hJ=>?_);go_wp2;refine hJ.out _ _ (λ_=>⟨((hLB3.call hb34).alloc _).cell 3,(km4.alloc _).drew,trivial⟩) ?_;clear hJ J;obtain⟨W5,hW5⟩:∃W5,W5=w4.alloc (.cells #[.int .u64 (ballot:Nat),.int .u64 (num:Nat),.string (bs (more.drop 8))] 317):=⟨_,rfl⟩;have hb45:Below w4.heap.size w4 W5:=by rw [hW5];exact zi (N2 _ _) _
   have hb35:Below w3.heap.size w3 W5:=zg hb34 hb45;have k5:Blk W5 w4.heap.size #[.int .u64 (ballot:Nat),.int .u64 (num:Nat),.string (bs (more.drop 8))] 317:=by rw [hW5];exact Blk.new rfl
   have hsrc5:Src W5 (.slice (some ⟨w4.heap.size,0,none⟩) 1 1) 3 [((ballot,num,more.drop 8):jl)].length ([((ballot,num,more.drop 8):jl)].flatMap zK):=jM (n:=1) (size:=3) (cap:=1) k5 rfl (N0 1);rw [← hW5];clear hW5;have hI5:=(zk.loc B K tv lp _ t).cut hI3 hb35;have hLB5:=hLB3.call hb35;have hLR5:=hLR3.out.below hb35;have km5:=km3.call hb35;have o15:(ow1.cut w3) lb=t++ [i+32]:=(Own.cut_old lt3).trans o1;have o25:∀g,(Value.slice pa l3.promises.length pc).ownBlock=some g->(ow1.cut w3) g=t++ [i+32]:=λg hg=>(Own.cut_old (hLR3.out.lt hg)).trans (o2.out g hg)
   have om5:(ow1.cut w3) w.heap.size=[]:=(Own.cut_old km3.lt).trans hom;have hpl3:l3.promises.length<=900:=by rw [hp3.out];exact hlv.out l hl.out
   obtain⟨pv',W7,hrun,hrow,hgr,hown⟩:=zT zlj hLR5 hsrc5 (zaq _) (by simp;omega) 172;obtain⟨hLB7,hs8,hLB8,hLR8,o18,o28,hL8⟩:=zdm hLB5 hLR5 o15 o25 hrow hgr hown h13 h23;have hmk5:∀g,(Value.slice pa l3.promises.length pc).ownBlock=some g->g≠w.heap.size:=λg hg e=>by have:=o25 g hg;rw [e,om5] at this;simp at this
   have km7:Blk W7 w.heap.size #[.int .i64 inst,.int .u64 (ballot:Nat)] 171:=km5.kept (hgr.block _ km5.lt (λe=>hmk5 _ e.symm rfl));have hI8:=hI5.setLead hlp.out hs8 hL8;have km8:=km7.other (p:=⟨lb,3,none⟩) (λe=>hmk e.symm) pv';obtain⟨sa,sc,rfl⟩:=hrow.wideV.shape;have c73:=hLB7.cell 3;have fr7:=hLB7.frozen;have lt7:=hLB7.lt;replace hLB7:=hid hLB7;replace hrun:=hid hrun;replace hrow:=hid hrow;replace hgr:=hid hgr;replace hown:=hid hown;replace o25:=hid o25;replace hmk5:=hid hmk5;refine zc rfl (λJ hJ=>?_);refine zw rfl _ _ _ rfl rfl rfl hrun.out ?_;unfold wpList;refine hJ.out _ _ (λ_=>⟨c73,km7,trivial⟩) ?_;clear hJ J
   (repeat (refine za (v:=?_) rfl rfl (λw' h=>?_) (λK k=>?_);rotate_left;obtain⟨f1,f2,f3,_⟩:=h;(try have e1:=f1.cell);(try have e2:=f2.cell);(try have e3:=f3.cell);go_simp;(try with_reducible rfl);go_simp;refine k _ ?_;clear k K))
   refine zc rfl (λJ hJ=>?_);go_wp2;refine hJ.out _ _ (λhh=>absurd rfl hh) ?_;clear hJ J;refine ze ?_;have om8:((ow1.cut w3).ext W5.heap.size (λk=>(Value.slice sa (l3.promises.length+ [((ballot,num,more.drop 8):jl)].length) sc).ownBlock=some k) (t++ [i+32])) w.heap.size=[]:=(Own.ext_old km5.lt).trans om5;obtain⟨O8,hO8⟩:∃O9,(ow1.cut w3).ext W5.heap.size (λk=>(Value.slice sa (l3.promises.length+ [((ballot,num,more.drop 8):jl)].length) sc).ownBlock=some k) (t++ [i+32])=O9:=⟨_,rfl⟩;rw [hO8] at hs8 o18 o28 hL8 hI8 om8;obtain⟨l8,hl8⟩:∃x:j8,x={l3 with promises:=l3.promises++ [(ballot,num,more.drop 8)] } :=⟨_,rfl⟩;have hl8v:l8.value=l.value:=by rw [hl8];exact hv3.out
   have hl8p:l8.promises=l.promises++ [(ballot,num,more.drop 8)]:=by rw [hl8];show l3.promises++_=_;rw [hp3.out]
   have h18:l8.promised.length=16:=by rw [hl8];exact h13
   have h28:l8.voted.length=16:=by rw [hl8];exact h23
   rw [← hl8] at hLB8 hL8 hI8;rw [← hp3.out] at hl8p;have hl8n:l8.promises.length=l3.promises.length+1:=by rw [hl8p];simp
   have hLR8':Row (W7.setCell ⟨lb,3,none⟩ (.slice sa (l3.promises.length+ [((ballot,num,more.drop 8):jl)].length) sc)) 317 3 (.slice sa (l3.promises.length+ [((ballot,num,more.drop 8):jl)].length) sc) l8.promises.length (l8.promises.flatMap zK):=by rw [hl8p];exact hLR8
   obtain⟨w8,hw8⟩:∃x,x=W7.setCell ⟨lb,3,none⟩ (.slice sa (l3.promises.length+ [((ballot,num,more.drop 8):jl)].length) sc):=⟨_,rfl⟩;rw [← hw8] at hs8 hLB8 hL8 hI8 km8 hLR8';have hs38:zq t ow1 w3 O8 w8:=zq.wrap hb35 (hs8.mono (Sub.child t (i+32)));have hs18:=hs13.trans hs38;have hlp8:=hlp.out;have hcvS:({({S with leads:=put (i:Int) l3 S.leads} :zf)with leads:=put (i:Int) l8 (put (i:Int) l3 S.leads)} :zf)={S with leads:=put (i:Int) l8 S.leads} :=by rw [zao]
   simp only [U2] at hLB8 hLR8' o28 hw8;rw [← hw8];clear hw8 hLR8 hLB7 hrun hrow hgr hown o25 hmk5 c73 fr7 lt7 km7 hI5 hLB5 hLR5 km5 o15 om5 hsrc5 k5 hb35 hb45 hb34 hb4 c43 km4 hs8 hs38 hs13 hLB3 hLR3 hs3 c33 m31 fr3 lt3 hI3 km3 hex t9 t8 hget;rw [← hl8n] at hLB8 hLR8' o28;have c83:=hLB8.cell 3;have c82:w8.cell? ⟨lb,2,none⟩=some (.string (bs l8.value)):=hLB8.cell 2;rw [hl8v] at c82;have kB8:=hI8.blk;have hpl8:l8.promises.length<=901:=by omega
   have hw2:IntKind.i64.wrap (2*(l8.promises.length:Int))=((2*l8.promises.length:Nat):Int):=by rw [N8];omega
   obtain⟨N,hN⟩:∃N,S.nodes.length=N:=⟨_,rfl⟩;simp only [hN] at kB8;obtain⟨V,hV⟩:∃V,l8.promises.length=V:=⟨_,rfl⟩;rw [hV] at hLB8 hw2 o28 c83 hLR8';replace hl8n:=hid hl8n;replace hV:=hid hV;replace hLR8':=hid hLR8';go_wp2_with fail
   refine zd [O 0,O 1,O 2,O 3,O 4,O 5,O 6,O 7,O 8,O 9,O 10,O 11] none (λw'=>w'.cell? ⟨lb,3,none⟩=some (.slice sa V sc)/\Blk w' B #[.slice (some ⟨K.nb,0,none⟩) N K.nc,.slice (some ⟨K.sb,0,none⟩) N N,.map (some K.lm),.pointer (some ⟨K.fb,0,none⟩),.map (some K.hm),.map (some K.dm),tv] 65/\True) (by kernel_rfl) (by kernel_rfl) ⟨c83,kB8.drew,trivial⟩ ?_
   (repeat (refine za (v:=?_) rfl rfl (λw' h=>?_) (λK k=>?_);rotate_left;obtain⟨f1,f2,f3,_⟩:=h;(try have e1:=f1.cell);(try have e2:=f2.cell);(try have e3:=f3.cell);go_simp;(try with_reducible rfl);go_simp;refine k _ ?_;clear k K))
   refine ze ?_;have hlen1:l.promises.length+1=V:=by rw [← hV.out,hl8n.out,hp3.out]
   by_cases hle:2*V<=N
   ·have t9:decide (2*V<=N)=true:=by simpa using hle
    have hcv':=hcv.out;rw [hN,hlen1,if_pos hle] at hcv';replace hcv':=hid hcv';go_wp2;go_end0
    refine⟨rfl,O8,zq.wrap hb1 (by rw [ho1];exact hs18.trans (zq.drew _ _ _)),?_⟩;rw [hcv'.out];have:=(zk.loc B K tv lp _ t).below hI8 (zo (N2 _ _));rw [hcvS,hl8,hl3.out] at this;exact⟨tv,lp,this⟩
   ·have t9:decide (2*V<=N)=false:=by simpa using hle
    obtain⟨px,pe,hpx⟩:∃x e,qI N l8.promises l.value=(x,e):=⟨_,_,rfl⟩;have hpl:=zfO N l8.promises l.value;have hpp:=λW hW=>zbU N (by rw [← hN];exact hg.n0) (.slice sa V sc) l8.promises l.value W hW (by omega)
    rw [hpx] at hpp hpl;have hcv':=hcv.out;rw [hN,hlen1,if_neg hle,← hp3.out,← hl8p,hpx] at hcv';simp only at hcv' hpp hpl;rw [hV.out] at hpp;replace hpp:=hid hpp;replace hcv':=hid hcv';replace hpx:=hid hpx;replace hV':=hV.out;have hsr8:=hLR8'.out.src;replace hsr8:=hid hsr8;replace hV':=hid hV';go_wp2_with fail
    refine zd [O 0,O 1,O 2,O 3,O 4,O 5,O 6,O 7,O 8,O 9,O 10,O 11,O 12,E 13,O 14,O 15,O 16,O 17,O 18] none (λw'=>w'.cell? ⟨lb,3,none⟩=some (.slice sa V sc)/\w'.cell? ⟨lb,2,none⟩=some (.string (bs l.value))/\Blk w' B #[.slice (some ⟨K.nb,0,none⟩) N K.nc,.slice (some ⟨K.sb,0,none⟩) N N,.map (some K.lm),.pointer (some ⟨K.fb,0,none⟩),.map (some K.hm),.map (some K.dm),tv] 65/\True) (by kernel_rfl) (by kernel_rfl) ⟨c83,c82,kB8.drew,trivial⟩ ?_
    (repeat (refine za (v:=?_) rfl rfl (λw' h=>?_) (λK k=>?_);rotate_left;obtain⟨f1,f2,f3,_⟩:=h;have e3:=f3.cell;go_simp;(try with_reducible rfl);go_simp;refine k _ ?_;clear k K))
    refine zc rfl (λJ hJ=>?_);go_wp2_with fail
    refine(hpp.out _ (hsr8.out.below (zo (zo (N2 _ _))))).mono ?_;rintro e w9⟨rfl,hb9⟩;have hb89:Below w8.heap.size w8 w9:=zg (zo (zo (N2 _ _))) hb9;have hLB9:=hLB8.call hb89;go_wp2;refine hJ.out _ _ (λ_=>⟨hLB9.cell 3,by have:=hLB9.cell 2;rw [← hl8v];exact this,kB8.call hb89,trivial⟩) ?_;clear hJ J
    (repeat (refine za (v:=?_) rfl rfl (λw' h=>?_) (λK k=>?_);rotate_left;obtain⟨f1,f2,f3,_⟩:=h;have e3:=f3.cell;go_simp;(try with_reducible rfl);go_simp;refine k _ ?_;clear k K))
    refine ze ?_;clear c83 c82 kB8;have hI9:=(zk.loc B K tv lp _ t).cut hI8 hb89;have km9:=km8.call hb89;have o19:(O8.cut w8) lb=t++ [i+32]:=(Own.cut_old hLB8.lt).trans o18;have o29:∀g,(Value.slice sa V sc).ownBlock=some g->(O8.cut w8) g=t++ [i+32]:=λg hg=>(Own.cut_old (hLR8'.out.lt hg)).trans (o28 g hg)
    have om9:(O8.cut w8) w.heap.size=[]:=(Own.cut_old km8.lt).trans om8;have hLR9:=hLR8'.out.below hb89;replace o29:=hid o29;replace o28:=hid o28;replace hLR9:=hid hLR9
    by_cases he:pe=0
    ·subst he
     have hcv2:=hcv'.out;rw [if_neg (by simp)] at hcv2;replace hcv2:=hid hcv2;have f9:=hLB9.frozen;have l9:=hLB9.lt;obtain⟨w11,hw11⟩:∃x,x=(w9.setCell ⟨lb,37,none⟩ (.bool true)).setCell ⟨lb,2,none⟩ (.string (bs px)):=⟨_,rfl⟩;have km11:Blk w11 w.heap.size #[.int .i64 inst,.int .u64 (ballot:Nat)] 171:=by rw [hw11];exact(km9.other (p:=⟨lb,37,none⟩) (λe=>hmk e.symm) _).other (p:=⟨lb,2,none⟩) (λe=>hmk e.symm) _
     have hM11:Mod (λk=>k=lb) w9 w11:=by rw [hw11];exact((Mod.refl (λk=>k=lb) w9).thenSet (p:=⟨lb,37,none⟩) rfl _).thenSet (p:=⟨lb,2,none⟩) rfl _
     have hLB11:Blk w11 lb (zE (.slice sa V sc) {l8 with asked:=true,value:=px}).toArray 175:=by
      rw [hw11];exact(hLB9.setL (zan h18 h28 true)).setL (zar (l:={l8 with asked:=true}) px)
     have hLR9':Row w9 317 3 (.slice sa V sc) l8.promises.length (l8.promises.flatMap zK):=by rw [hV'.out];exact hLR9.out
     obtain⟨hs11,hL11⟩:=ZA (l':={l8 with asked:=true,value:=px}) hLB9 hLR9' o19 o29.out hM11 hLB11 rfl h18 h28;have hI11:=hI9.setLead hlp8 hs11 hL11;have hs111:=hs18.trans (zq.wrap hb89 (hs11.mono (Sub.child t (i+32))));have m9:=km9.cell;have c37:=hLB9.cellL (y6 (l:=l8) (pv:=.slice sa V sc) h18 h28 1);have c92:w9.cell? ⟨lb,2,none⟩=some (.string (bs l8.value)):=hLB9.cell 2;simp only [Nat.reduceAdd] at c37;have hmk':w.heap.size≠lb:=λe=>hmk e.symm
     replace hw11:=hid hw11;replace hLR9':=hid hLR9';go_wp2_with fail
     rw [← hw11.out];clear m9 hmk' c37 c92;obtain⟨W12,hW12⟩:∃W12,W12=w11.alloc (.cells #[.string (bs px)] 9):=⟨_,rfl⟩;have hb12:Below w11.heap.size w11 W12:=by rw [hW12];exact zi (N2 _ _) _
     have hz11:w11.heap.size=w9.heap.size:=by rw [hw11.out];simp
     have k12:Blk W12 w9.heap.size #[.string (bs px)] 9:=by rw [hW12,← hz11];exact Blk.new rfl
     have hI12:=(zk.loc B K tv lp _ t).cut hI11 hb12;simp only [zao] at hI12;have hsa:=Zk B K _ t ht _ 5 i (by omega) hi inst ballot (.slice (some ⟨w9.heap.size,0,none⟩) 1 1) [px] W12 ⟨tv,lp,hI12⟩ ⟨hg.notes,hg.last,hg.n0⟩ (jM (n:=1) (size:=1) (cap:=1) k12 rfl (N0 1)) (by simp) (by simp;omega) (λa l' c e=>by cases e;exact Own.cut_new (by show w11.heap.size<=w9.heap.size;omega));rw [show [px].flatten=px by simp] at hsa;unfold xE at hsa;rw [← hW12];refine hsa.mono ?_;rintro e w13⟨rfl,ow13,hs13',hW13⟩;go_wp2;go_end0
     refine⟨rfl,ow13,zq.wrap hb1 (by rw [ho1];exact hs111.trans (zq.wrap hb12 hs13')),?_⟩;rw [hcv2.out,hl8p,hp3.out];rw [hl8,hl3.out] at hW13;exact hW13
    ·have t10:(pe==0)=false:=by simpa using he
     have hcv2:=hcv'.out;rw [if_pos he] at hcv2;replace hcv2:=hid hcv2;clear he;go_wp2;go_end0
     refine⟨rfl,_,zq.wrap hb1 (by rw [ho1];exact hs18.trans (zq.wrap hb89 (zq.refl _ _ _))),?_⟩;rw [hcv2.out,hl8p,hp3.out];have:=hI9;rw [hcvS,hl8,hl3.out] at this;exact⟨tv,lp,this⟩
