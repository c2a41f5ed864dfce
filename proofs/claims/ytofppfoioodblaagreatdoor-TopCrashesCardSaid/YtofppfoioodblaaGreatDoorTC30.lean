/- PARTS OF THE PROOF. -/
import Derived.Test.YtofppfoioodblaaGreatDoorTC29
set_option maxRecDepth 8000
set_option maxHeartbeats 4000000
open Go.Proofs.Tryz
namespace Go.Proofs.YtofppfoioodblaaGreatDoor
open Go Go.RowKit Go.Shelf Go.Extern.Stop Go.Stop Go.Extern
attribute [local go_sem] Oper.semAt_some zB zp
theorem zmI:Yc prog 172 317 3 32 (.agg #[.int .u64 0,.int .u64 0,.string ⟨#[]⟩]):=⟨Tryz.underlying172,by kernel_rfl,rfl,by decide,by decide⟩
theorem zbk(l:List jw):∀u∈l.flatMap zN,u.oneCell'=true:=by
 intro u hu;obtain⟨m,_,hm⟩:=List.mem_flatMap.1 hu;simp only [zN,List.mem_cons,List.mem_nil_iff,or_false] at hm
 rcases hm with rfl|rfl|rfl<;>rfl
theorem zjc(l:List jw)(own:List UInt8)(ho:own.length<=4000)(h:l.all yn=true):(YJ l own).2.2.length<=4000:=by
 have h':∀x∈l,x.2.2.length<=4000:=λx hx=>by
  have:=List.all_eq_true.1 h x hx;unfold yn at this;simp only [Bool.and_eq_true,decide_eq_true_eq] at this;exact this.2
 clear h;unfold YJ
 suffices H:∀(l:List jw)(b:jw),b.2.2.length<=4000->(∀x∈l,x.2.2.length<=4000)->(l.foldl (λ(b:jw) v=>if b.2.1<v.2.1 then v else b) b).2.2.length<=4000 from H l (0,0,own) ho h'
 intro l
 induction l with
 |nil=>intro b hb _;exact hb
 |cons x l ih=>
  intro b hb hl;refine ih _ ?_ (λy hy=>hl y (by simp [hy]))
  show(if b.2.1<x.2.1 then x else b).2.2.length<=4000
  split
  ·exact hl x (by simp)
  exact hb
theorem zha(n:Nat)(l:List jw)(own:List UInt8):(Zh n l own).1.length<=4000:=by
 unfold Zh
 split
 ·simp
 split
 ·simp
 rename_i h2
 exact zjc l own (by omega) (by by_cases h:l.all yn=true;exact h;exact absurd (.inl (by simpa using h)) h2)
theorem zbl {pv:Value}{l:j8}(x:List UInt8):(zG pv l).set 2 (.string (bs x))=zG pv {l with value:=x} :=rfl
theorem QK {pv:Value}{l:j8}(pv':Value):(zG pv l).set 3 pv'=zG pv' l:=rfl
theorem zep {lb:Nat}{l:j8}{x:jw}{pv pv':Value}{u:List Nat}{ow:Own}{W W7:World}(hB:Blk W lb (zG pv l).toArray 175)(hR:Row W 317 3 pv l.promises.length (l.promises.flatMap zN))(o1:ow lb=u)(o2:∀g,pv.ownBlock=some g->ow g=u)
 (hrow:Row W7 317 3 pv' (l.promises.length+ [x].length) (l.promises.flatMap zN++ [x].flatMap zN)) (hgr:W.grownBy W7 pv.ownBlock) (hown:pv'.ownBlock=pv.ownBlock∨pv'.ownBlock=some W.heap.size) (h1:l.promised.length=16) (h2:l.voted.length=16):
 Blk W7 lb (zG pv l).toArray 175/\zt u ow W (ow.ext W.heap.size (λk=>pv'.ownBlock=some k) u) (W7.setCell ⟨lb,3,none⟩ pv')/\Blk (W7.setCell ⟨lb,3,none⟩ pv') lb (zG pv' {l with promises:=l.promises++ [x] }).toArray 175/\Row (W7.setCell ⟨lb,3,none⟩ pv') 317 3 pv' (l.promises++ [x]).length ((l.promises++ [x]).flatMap zN)/\
  (ow.ext W.heap.size (λk=>pv'.ownBlock=some k) u) lb=u/\(∀g,pv'.ownBlock=some g->(ow.ext W.heap.size (λk=>pv'.ownBlock=some k) u) g=u)/\YH lb {l with promises:=l.promises++ [x] } u (ow.ext W.heap.size (λk=>pv'.ownBlock=some k) u) (W7.setCell ⟨lb,3,none⟩ pv'):=by
 have aa:∀g,pv.ownBlock=some g->g≠lb:=λg hg=>hR.ne_blk hB (by decide) hg
 have lB:=hB.lt;have k7:Blk W7 lb (zG pv l).toArray 175:=hB.kept (hgr.block lb lB (λe=>aa lb e.symm rfl));have k8:Blk (W7.setCell ⟨lb,3,none⟩ pv') lb (zG pv' {l with promises:=l.promises++ [x] }).toArray 175:=k7.setL (QK pv')
 have ac:∀g,pv'.ownBlock=some g->(pv.ownBlock=some g∨g=W.heap.size):=λg hg=>by
  rw [hg] at hown
  rcases hown with h|h
  ·exact .inl h.symm
  right;simpa using h
 have r8:Row (W7.setCell ⟨lb,3,none⟩ pv') 317 3 pv' (l.promises++ [x]).length ((l.promises++ [x]).flatMap zN):=by
  simp only [N1,U5];refine hrow.kept (λg hg=>N4 _ _ _ _ (λe=>?_));have e':g=lb:=e;subst e'
  rcases ac g hg with h|h
  ·exact aa g h rfl
  omega
 have p1:(ow.ext W.heap.size (λk=>pv'.ownBlock=some k) u) lb=u:=by rw [Own.ext_old lB,o1]
 have p2:∀g,pv'.ownBlock=some g->(ow.ext W.heap.size (λk=>pv'.ownBlock=some k) u) g=u:=by
  intro g hg
  rcases ac g hg with h|h
  ·rw [Own.ext_old (hR.lt h),o2 g h]
  rw [Own.ext_new (by omega) hg]
 refine⟨k7,⟨?_,λk hk=>Own.ext_old hk⟩,k8,r8,p1,p2,h1,h2,pv',k8,r8,p1,p2⟩;exact(Mod.grown (X:=λk=>Sub u (ow k)) hgr (λk h=>by rw [o2 k h];exact Sub.rfl' u)).thenSet (p:=⟨lb,3,none⟩) (by simp only [o1];exact Sub.rfl' u) _
theorem VR(B:Nat)(K:WK)(S:zf)(t:List Nat)(ht:t≠ [])(ow:Own)(i src:Nat)(hi:i<16)(hsrc:src<16)(inst:Int)(ballot:Nat)(more:List UInt8)(hmr:more.length<=1000000)(w:World)(h:zI B K S t ow w)(hg:zbe S)(hlv:∀l,zE (i:Int) S.leads=some l->l.promises.length<=900):
 Calls prog 152 #[.pointer (some ⟨B,0,none⟩),.int .i64 i,.int .i64 src,x4 inst ballot,.string (bs more)] w (xK B K (countPromise S i src inst ballot more) t ow w (.tuple #[])):=by
 obtain⟨tv,lp,hI⟩:=h;have ba:Below w.heap.size w (w.alloc (.cells #[.int .i64 inst,.int .u64 (ballot:Nat)] 171)):=pbx;have aw:=(zl.loc B K tv lp S t).cut hI ba;have km:Blk (w.alloc (.cells #[.int .i64 inst,.int .u64 (ballot:Nat)] 171)) w.heap.size #[.int .i64 inst,.int .u64 (ballot:Nat)] 171:=Blk.new rfl;have db:(ow.cut w) w.heap.size=[]:=Own.cut_new (N0 _);have aq:=λW hW=>Qf (B:=B) (K:=K) (tv:=tv) (lp:=lp) (S:=S) (t:=t) (ow:=ow.cut w) i inst ballot W hW
 obtain⟨an,bg⟩:∃o,ow.cut w=o:=⟨_,rfl⟩;have ee:zt t an w an w:=zt.refl _ _ _;rw [bg] at aw db aq;unfold x4 at*;clear hI
 cases hbb:VH S i inst ballot with
 |false=>
  have ar:countPromise S i src inst ballot more=S:=by
   unfold countPromise;unfold VH at hbb
   cases hl:zE (i:Int) S.leads with
   |none=>rfl
   |some l=>
    rw [hl] at hbb;simp only at hbb⊢;rw [if_pos]
    by_cases h1:l.inst=inst
    ·right;left;intro h2;simp [h1,h2] at hbb
    left;exact h1
  rw [ar];rw [hbb] at aq;replace aq:=hid aq;clear ar hbb
  go_enter func152,ntmps152
  go_wp2_with fail
  refine(aq.out _ aw).mono ?_;rintro e w2⟨rfl,ac⟩;have a5:=(zl.loc B K tv lp S t).below aw ac;have ah:=zh ba ac;go_wp2;go_end0
  exact⟨rfl,an,zt.wrap ah (by rw [bg];exact zt.refl _ _ _),tv,lp,a5⟩
 |true=>
  obtain⟨l,hl,d3,d1⟩:∃l,zE (i:Int) S.leads=some l/\l.inst=inst/\l.ballot=ballot:=by
   unfold VH at hbb
   cases hl:zE (i:Int) S.leads with
   |none=>rw [hl] at hbb;cases hbb
   |some l=>rw [hl] at hbb;simp at hbb;exact⟨l,rfl,hbb.1,hbb.2⟩
  obtain⟨lb,bp,h1,h2,pv,al,a0,o1,o2⟩:=aw.leadAt hl;rw [hbb,bp] at aq;unfold zmw at aq;simp only [Option.map_some] at aq;obtain⟨ai,b1⟩:∃x,z8 more 0+4294967296*z8 more 4=x:=⟨_,rfl⟩
  have ar:countPromise S i src inst ballot more=if l.asked∨l.promised[src]?.getD false∨more.length<8 then S
   else if 2*(l.promises.length+1)<=S.nodes.length then {S with leads:=put (i:Int) {l with promised:=l.promised.set src true,promises:=l.promises++ [(ballot,ai,more.drop 8)] } S.leads}
   else if(Zh S.nodes.length (l.promises++ [(ballot,ai,more.drop 8)]) l.value).2≠0 then {S with leads:=put (i:Int) {l with promised:=l.promised.set src true,promises:=l.promises++ [(ballot,ai,more.drop 8)] } S.leads}
   else j9 {S with leads:=put (i:Int) {l with promised:=l.promised.set src true,promises:=l.promises++ [(ballot,ai,more.drop 8)],asked:=true,value:=(Zh S.nodes.length (l.promises++ [(ballot,ai,more.drop 8)]) l.value).1} S.leads} 5 i inst ballot (Zh S.nodes.length (l.promises++ [(ballot,ai,more.drop 8)]) l.value).1:=by
   unfold countPromise;rw [hl,← b1];simp only
   by_cases hc:l.asked∨l.promised[src]?.getD false∨more.length<8
   ·rw [if_pos (.inr (.inr hc)),if_pos hc]
   rw [if_neg hc,if_neg (by rw [d3,d1];simp only [ne_eq,not_true_eq_false,false_or];exact hc)]
   simp only [N1,U2]
  have cv:=hlv l hl;have b0:=QI (pv:=pv) h1 hsrc;have ce:=vy (pv:=pv) h1 h2 1;obtain⟨vd,ct⟩:∃b,l.promised[src]?.getD false=b:=⟨_,rfl⟩;rw [ct] at b0 ar;have y0:(0:Int)<=(src:Int):=by omega
  have y1:(src:Int)<16:=by omega
  replace aq:=hid aq;replace ct:=hid ct;replace hlv:=hid hlv;replace hbb:=hid hbb;replace hl:=hid hl;replace bp:=hid bp;replace o2:=hid o2;have bi:=zL more
  by_cases hc:l.asked=true∨vd=true∨more.length<8
  ·rw [if_pos hc] at ar
   rw [ar];replace ar:=hid ar
   cases bu:l.asked with
   |true=>
    replace bi:=hid bi;clear hc hmr
    go_enter func152,ntmps152
    go_wp2_with fail
    refine(aq.out _ aw).mono ?_;rintro e w2⟨rfl,ac⟩;have a5:=(zl.loc B K tv lp S t).below aw ac;have ah:=zh ba ac;have be:=(al.call ac).cellL ce;simp only [Nat.reduceAdd,bu] at be;go_wp2;go_end0
    exact⟨rfl,an,zt.wrap ah (by rw [bg];exact zt.refl _ _ _),tv,lp,a5⟩
   |false=>
    rw [bu] at hc
    cases vd with
    |true=>
     replace bi:=hid bi;clear hc hmr
     go_enter func152,ntmps152
     go_wp2_with fail
     refine(aq.out _ aw).mono ?_;rintro e w2⟨rfl,ac⟩;have a5:=(zl.loc B K tv lp S t).below aw ac;have ah:=zh ba ac;have be:=(al.call ac).cellL ce;have cu:=(al.call ac).cellL b0;simp only [Nat.reduceAdd,bu] at be;go_wp2;go_end0
     exact⟨rfl,an,zt.wrap ah (by rw [bg];exact zt.refl _ _ _),tv,lp,a5⟩
    |false=>
     have h8:more.length<8:=by simpa using hc
     have t8:decide (((bs more).size:Int)<8)=true:=by rw [bi];simp;omega
     replace bi:=hid bi;clear hc h8 hmr
     go_enter func152,ntmps152
     go_wp2_with fail
     refine(aq.out _ aw).mono ?_;rintro e w2⟨rfl,ac⟩;have a5:=(zl.loc B K tv lp S t).below aw ac;have ah:=zh ba ac;have be:=(al.call ac).cellL ce;have cu:=(al.call ac).cellL b0;simp only [Nat.reduceAdd,bu] at be;go_wp2;go_end0
     exact⟨rfl,an,zt.wrap ah (by rw [bg];exact zt.refl _ _ _),tv,lp,a5⟩
  rw [if_neg hc] at ar
  rw [not_or,not_or] at hc;have bu:l.asked=false:=by simpa using hc.1
  have d8:vd=false:=by simpa using hc.2.1
  have h8:8<=more.length:=by omega
  have t8:decide ((more.length:Int)<8)=false:=by simp;omega
  have a2:=λW=>zft more h8 hmr W
  have dy:=ju more 8;rw [bi] at dy;have t9:(8:Int)<=(more.length:Int):=by omega
  rw [b1] at a2;subst d8;replace a2:=hid a2;replace ar:=hid ar;clear hc
  go_enter func152,ntmps152
  go_wp2_with fail
  refine(aq.out _ aw).mono ?_;rintro e w2⟨rfl,ac⟩;have a5:=(zl.loc B K tv lp S t).below aw ac;have ah:=zh ba ac;have aj:=al.call ac;have be:=aj.cellL ce;have cu:=aj.cellL b0;have f2:=aj.frozen;have l2:=aj.lt;simp only [Nat.reduceAdd,bu] at be;go_wp2_with fail
  obtain⟨w3,cr⟩:∃w3,w3=w2.setCell ⟨lb,4+src,none⟩ (.bool true):=⟨_,rfl⟩;have cn:Mod (λk=>k=lb) w2 w3:=by rw [cr];exact(Mod.refl (λk=>k=lb) w2).thenSet (p:=⟨lb,4+src,none⟩) rfl _
  have ag:Blk w3 lb (zG pv {l with promised:=l.promised.set src true}).toArray 175:=by
   rw [cr];exact aj.setL (zcQ h1 hsrc true)
  rw [← cr];clear cr be cu f2 l2;obtain⟨l3,a6⟩:∃x:j8,x={l with promised:=l.promised.set src true} :=⟨_,rfl⟩;have c0:l3.promised.length=16:=by rw [a6];simpa using h1
  have de:l3.voted.length=16:=by rw [a6];exact h2
  have az:l3.promises=l.promises:=by rw [a6]
  have c8:l3.value=l.value:=by rw [a6]
  rw [← a6] at ag;obtain⟨cw,dw⟩:=Ji (l':=l3) aj (a0.below ac) o1 o2.out cn ag az c0 de
  have ao:Row w3 317 3 pv l3.promises.length (l3.promises.flatMap zN):=by
   rw [az];exact(a0.below ac).mod cn (λg hg e=>(a0.below ac).ne_blk aj (by decide) hg e)
  have di:=a5.setLead bp.out cw dw;have cd:lb≠w.heap.size:=λe=>by rw [e,db] at o1;simp at o1
  have br:=(km.call ac).kept (cn.block _ (km.call ac).lt (λe=>cd e.symm));have cc:zt t an (w.alloc (.cells #[.int .i64 inst,.int .u64 (ballot:Nat)] 171)) an w3:=(zt.of_below t an ac).trans (cw.mono (Sub.child t (i+32)));have dx:w3.cell? ⟨lb,3,none⟩=some pv:=ag.cell 3;have ec:=br.cell;have d9:=ag.frozen;have dt:=ag.lt;have c7:=ao;obtain⟨pa,pc,rfl⟩:=ao.wideV.shape;replace a6:=hid a6;replace c8:=hid c8;replace az:=hid az;replace ao:=hid ao;replace a0:=hid a0;clear c7 b0 ce cv al aj aw a5 dw cn;refine zd [O 0,O 1,O 2,O 3,O 4,O 5,O 6,O 7,O 9,O 10,E 8,E 11,E 12,E 13,O 14,O 15,E 16] (some 16) (λw'=>w'.cell? ⟨lb,3,none⟩=some (.slice pa l3.promises.length pc)/\Blk w' w.heap.size #[.int .i64 inst,.int .u64 (ballot:Nat)] 171/\True) ⟨dx,br.drew,trivial⟩ ?_
  refine We ?_
  refine zc rfl (λJ hJ=>?_);go_wp2_with fail
  refine(a2.out _).mono ?_;rintro e w4⟨rfl,du⟩;have a1:Below w3.heap.size w3 w4:=zh (zq (N2 _ _)) du;have cz:=(ag.call a1).cell 3;have co:=br.call a1;go_wp2;refine hJ.out _ _ (λ_=>⟨cz,co,trivial⟩) ?_;clear hJ J;refine zc rfl (λJ hJ=>?_);go_wp2;refine hJ.out _ _ (λ_=>⟨cz,co.drew,trivial⟩) ?_;clear hJ J;refine zc rfl (λJ hJ=>?_);go_wp2;refine hJ.out _ _ (λ_=>⟨((ag.call a1).alloc _).cell 3,(co.alloc _).drew,trivial⟩) ?_;clear hJ J;obtain⟨W5,cs⟩:∃W5,W5=w4.alloc (.cells #[.int .u64 (ballot:Nat),.int .u64 (ai:Nat),.string (bs (more.drop 8))] 317):=⟨_,rfl⟩;have cj:Below w4.heap.size w4 W5:=by rw [cs];exact zi (N2 _ _) _
  have ax:Below w3.heap.size w3 W5:=zh a1 cj;have k5:Blk W5 w4.heap.size #[.int .u64 (ballot:Nat),.int .u64 (ai:Nat),.string (bs (more.drop 8))] 317:=by rw [cs];exact Blk.new rfl
  have bh:Src W5 (.slice (some ⟨w4.heap.size,0,none⟩) 1 1) 3 [((ballot,ai,more.drop 8):jw)].length ([((ballot,ai,more.drop 8):jw)].flatMap zN):=jP (n:=1) (size:=3) (cap:=1) k5 rfl (N0 1);rw [← cs];clear cs;have ds:=(zl.loc B K tv lp _ t).cut di ax;have cf:=ag.call ax;have bl:=ao.out.below ax;have cl:=br.call ax;have dj:(an.cut w3) lb=t++ [i+32]:=(Own.cut_old dt).trans o1;have b4:∀g,(Value.slice pa l3.promises.length pc).ownBlock=some g->(an.cut w3) g=t++ [i+32]:=λg hg=>(Own.cut_old (ao.out.lt hg)).trans (o2.out g hg)
  have c4:(an.cut w3) w.heap.size=[]:=(Own.cut_old br.lt).trans db;have eh:l3.promises.length<=900:=by rw [az.out];exact hlv.out l hl.out
  obtain⟨d4,W7,bb,a3,cb,a7⟩:=zQ zmI bl bh (zbk _) (by simp;omega) 172;obtain⟨au,bz,af,b9,dz,bk,cq⟩:=zep cf bl dj b4 a3 cb a7 c0 de;have a8:∀g,(Value.slice pa l3.promises.length pc).ownBlock=some g->g≠w.heap.size:=λg hg e=>by have:=b4 g hg;rw [e,c4] at this;simp at this
  have cx:Blk W7 w.heap.size #[.int .i64 inst,.int .u64 (ballot:Nat)] 171:=cl.kept (cb.block _ cl.lt (λe=>a8 _ e.symm rfl));have bq:=ds.setLead bp.out bz cq;have c5:=cx.other (p:=⟨lb,3,none⟩) (λe=>cd e.symm) d4;obtain⟨sa,sc,rfl⟩:=a3.wideV.shape;have dp:=au.cell 3;have d7:=au.frozen;have eg:=au.lt;replace au:=hid au;replace bb:=hid bb;replace a3:=hid a3;replace cb:=hid cb;replace a7:=hid a7;replace b4:=hid b4;replace a8:=hid a8;refine zc rfl (λJ hJ=>?_);refine zw rfl _ _ _ rfl rfl rfl bb.out ?_;unfold wpList;refine hJ.out _ _ (λ_=>⟨dp,cx,trivial⟩) ?_;clear hJ J
  refine We ?_
  refine zc rfl (λJ hJ=>?_);go_wp2;refine hJ.out _ _ (λhh=>absurd rfl hh) ?_;clear hJ J;refine ze ?_;have dk:((an.cut w3).ext W5.heap.size (λk=>(Value.slice sa (l3.promises.length+ [((ballot,ai,more.drop 8):jw)].length) sc).ownBlock=some k) (t++ [i+32])) w.heap.size=[]:=(Own.ext_old cl.lt).trans c4;obtain⟨O8,d6⟩:∃O9,(an.cut w3).ext W5.heap.size (λk=>(Value.slice sa (l3.promises.length+ [((ballot,ai,more.drop 8):jw)].length) sc).ownBlock=some k) (t++ [i+32])=O9:=⟨_,rfl⟩;rw [d6] at bz dz bk cq bq dk;obtain⟨l8,bc⟩:∃x:j8,x={l3 with promises:=l3.promises++ [(ballot,ai,more.drop 8)] } :=⟨_,rfl⟩;have b8:l8.value=l.value:=by rw [bc];exact c8.out
  have ay:l8.promises=l.promises++ [(ballot,ai,more.drop 8)]:=by rw [bc];show l3.promises++_=_;rw [az.out]
  have da:l8.promised.length=16:=by rw [bc];exact c0
  have dc:l8.voted.length=16:=by rw [bc];exact de
  rw [← bc] at af cq bq;rw [← az.out] at ay;have a9:l8.promises.length=l3.promises.length+1:=by rw [ay];simp
  have aa:Row (W7.setCell ⟨lb,3,none⟩ (.slice sa (l3.promises.length+ [((ballot,ai,more.drop 8):jw)].length) sc)) 317 3 (.slice sa (l3.promises.length+ [((ballot,ai,more.drop 8):jw)].length) sc) l8.promises.length (l8.promises.flatMap zN):=by rw [ay];exact b9
  obtain⟨w8,cm⟩:∃x,x=W7.setCell ⟨lb,3,none⟩ (.slice sa (l3.promises.length+ [((ballot,ai,more.drop 8):jw)].length) sc):=⟨_,rfl⟩;rw [← cm] at bz af cq bq c5 aa;have b6:zt t an w3 O8 w8:=zt.wrap ax (bz.mono (Sub.child t (i+32)));have bm:=cc.trans b6;have c3:=bp.out;have cg:({({S with leads:=put (i:Int) l3 S.leads} :zf)with leads:=put (i:Int) l8 (put (i:Int) l3 S.leads)} :zf)={S with leads:=put (i:Int) l8 S.leads} :=by rw [zbi]
  simp only [U2] at af aa bk cm;rw [← cm];clear cm b9 au bb a3 cb a7 b4 a8 dp d7 eg cx ds cf bl cl dj c4 bh k5 ax cj a1 du cz co bz b6 cc ag ao cw dx ec d9 dt di br dy t9 t8 a2;rw [← a9] at af aa bk;have ck:=af.cell 3;have dg:w8.cell? ⟨lb,2,none⟩=some (.string (bs l8.value)):=af.cell 2;rw [b8] at dg;have b7:=bq.blk;have ef:l8.promises.length<=901:=by omega
  have ei:IntKind.i64.wrap (2*(l8.promises.length:Int))=((2*l8.promises.length:Nat):Int):=by rw [N8];omega
  obtain⟨N,hN⟩:∃N,S.nodes.length=N:=⟨_,rfl⟩;simp only [hN] at b7;obtain⟨V,hV⟩:∃V,l8.promises.length=V:=⟨_,rfl⟩;rw [hV] at af ei bk ck aa;replace a9:=hid a9;replace hV:=hid hV;replace aa:=hid aa;go_wp2_with fail
  refine zd [O 0,O 1,O 2,O 3,O 4,O 5,O 6,O 7,O 8,O 9,O 10,O 11] none (λw'=>w'.cell? ⟨lb,3,none⟩=some (.slice sa V sc)/\Blk w' B #[.slice (some ⟨K.nb,0,none⟩) N K.nc,.slice (some ⟨K.sb,0,none⟩) N N,.map (some K.lm),.pointer (some ⟨K.fb,0,none⟩),.map (some K.hm),.map (some K.dm),tv] 65/\True) ⟨ck,b7.drew,trivial⟩ ?_
  refine We ?_
  refine ze ?_;have bf:l.promises.length+1=V:=by rw [← hV.out,a9.out,az.out]
  by_cases hle:2*V<=N
  ·have t9:decide (2*V<=N)=true:=by simpa using hle
   have ad:=ar.out;rw [hN,bf,if_pos hle] at ad;replace ad:=hid ad;go_wp2;go_end0
   refine⟨rfl,O8,zt.wrap ba (by rw [bg];exact bm.trans (zt.drew _ _ _)),?_⟩;rw [ad.out];have:=(zl.loc B K tv lp _ t).below bq (zq (N2 _ _));rw [cg,bc,a6.out] at this;exact⟨tv,lp,this⟩
  have t9:decide (2*V<=N)=false:=by simpa using hle
  obtain⟨px,pe,cp⟩:∃x e,Zh N l8.promises l.value=(x,e):=⟨_,_,rfl⟩;have dq:=zha N l8.promises l.value;have bt:=λW hW=>zcU N (by rw [← hN];exact hg.n0) (.slice sa V sc) l8.promises l.value W hW (by omega)
  rw [cp] at bt dq;have ad:=ar.out;rw [hN,bf,if_neg hle,← az.out,← ay,cp] at ad;simp only at ad bt dq;rw [hV.out] at bt;replace bt:=hid bt;replace ad:=hid ad;replace cp:=hid cp;replace hV':=hV.out;have bn:=aa.out.src;replace bn:=hid bn;replace hV':=hid hV';go_wp2_with fail
  refine zd [O 0,O 1,O 2,O 3,O 4,O 5,O 6,O 7,O 8,O 9,O 10,O 11,O 12,E 13,O 14,O 15,O 16,O 17,O 18] none (λw'=>w'.cell? ⟨lb,3,none⟩=some (.slice sa V sc)/\w'.cell? ⟨lb,2,none⟩=some (.string (bs l.value))/\Blk w' B #[.slice (some ⟨K.nb,0,none⟩) N K.nc,.slice (some ⟨K.sb,0,none⟩) N N,.map (some K.lm),.pointer (some ⟨K.fb,0,none⟩),.map (some K.hm),.map (some K.dm),tv] 65/\True) ⟨ck,dg,b7.drew,trivial⟩ ?_
  refine Wv ?_
  refine zc rfl (λJ hJ=>?_);go_wp2_with fail
  refine(bt.out _ (bn.out.below (zq (zq (N2 _ _))))).mono ?_;rintro e w9⟨rfl,d2⟩;have ap:Below w8.heap.size w8 w9:=zh (zq (zq (N2 _ _))) d2;have ak:=af.call ap;go_wp2;refine hJ.out _ _ (λ_=>⟨ak.cell 3,by have:=ak.cell 2;rw [← b8];exact this,b7.call ap,trivial⟩) ?_;clear hJ J
  refine Wv ?_
  refine ze ?_;clear ck dg b7;have dv:=(zl.loc B K tv lp _ t).cut bq ap;have d0:=c5.call ap;have d5:(O8.cut w8) lb=t++ [i+32]:=(Own.cut_old af.lt).trans dz;have dd:∀g,(Value.slice sa V sc).ownBlock=some g->(O8.cut w8) g=t++ [i+32]:=λg hg=>(Own.cut_old (aa.out.lt hg)).trans (bk g hg)
  have ek:(O8.cut w8) w.heap.size=[]:=(Own.cut_old c5.lt).trans dk;have bj:=aa.out.below ap;replace dd:=hid dd;replace bk:=hid bk;replace bj:=hid bj
  by_cases he:pe=0
  ·subst he
   have ae:=ad.out;rw [if_neg (by simp)] at ae;replace ae:=hid ae;have f9:=ak.frozen;have l9:=ak.lt;obtain⟨bd,am⟩:∃x,x=(w9.setCell ⟨lb,37,none⟩ (.bool true)).setCell ⟨lb,2,none⟩ (.string (bs px)):=⟨_,rfl⟩;have ea:Blk bd w.heap.size #[.int .i64 inst,.int .u64 (ballot:Nat)] 171:=by rw [am];exact(d0.other (p:=⟨lb,37,none⟩) (λe=>cd e.symm) _).other (p:=⟨lb,2,none⟩) (λe=>cd e.symm) _
   have c1:Mod (λk=>k=lb) w9 bd:=by rw [am];exact((Mod.refl (λk=>k=lb) w9).thenSet (p:=⟨lb,37,none⟩) rfl _).thenSet (p:=⟨lb,2,none⟩) rfl _
   have bv:Blk bd lb (zG (.slice sa V sc) {l8 with asked:=true,value:=px}).toArray 175:=by
    rw [am];exact(ak.setL (zbh da dc true)).setL (zbl (l:={l8 with asked:=true}) px)
   have a4:Row w9 317 3 (.slice sa V sc) l8.promises.length (l8.promises.flatMap zN):=by rw [hV'.out];exact bj.out
   obtain⟨bw,c6⟩:=Ji (l':={l8 with asked:=true,value:=px}) ak a4 d5 dd.out c1 bv rfl da dc;have c2:=dv.setLead c3 bw c6;have b3:=bm.trans (zt.wrap ap (bw.mono (Sub.child t (i+32))));have m9:=d0.cell;have dr:=ak.cellL (vy (l:=l8) (pv:=.slice sa V sc) da dc 1);have eb:w9.cell? ⟨lb,2,none⟩=some (.string (bs l8.value)):=ak.cell 2;simp only [Nat.reduceAdd] at dr;have c9:w.heap.size≠lb:=λe=>cd e.symm
   replace am:=hid am;replace a4:=hid a4;go_wp2_with fail
   rw [← am.out];clear m9 c9 dr eb;obtain⟨b5,bo⟩:∃b5,b5=bd.alloc (.cells #[.string (bs px)] 9):=⟨_,rfl⟩;have ca:Below bd.heap.size bd b5:=by rw [bo];exact zi (N2 _ _) _
   have dh:bd.heap.size=w9.heap.size:=by rw [am.out];simp
   have ed:Blk b5 w9.heap.size #[.string (bs px)] 9:=by rw [bo,← dh];exact Blk.new rfl
   have ch:=(zl.loc B K tv lp _ t).cut c2 ca;simp only [zbi] at ch;have cy:=ZY B K _ t ht _ 5 i (by omega) hi inst ballot (.slice (some ⟨w9.heap.size,0,none⟩) 1 1) [px] b5 ⟨tv,lp,ch⟩ ⟨hg.notes,hg.last,hg.n0⟩ (jP (n:=1) (size:=1) (cap:=1) ed rfl (N0 1)) (by simp) (by simp;omega) (λa l' c e=>by cases e;exact Own.cut_new (by show bd.heap.size<=w9.heap.size;omega));rw [show [px].flatten=px by simp] at cy;unfold x4 at cy;rw [← bo];refine cy.mono ?_;rintro e ej⟨rfl,df,b2,ci⟩;go_wp2;go_end0
   refine⟨rfl,df,zt.wrap ba (by rw [bg];exact b3.trans (zt.wrap ca b2)),?_⟩;rw [ae.out,ay,az.out];rw [bc,a6.out] at ci;exact ci
  have el:(pe==0)=false:=by simpa using he
  have ae:=ad.out;rw [if_pos he] at ae;replace ae:=hid ae;clear he;go_wp2;go_end0
  refine⟨rfl,_,zt.wrap ba (by rw [bg];exact bm.trans (zt.wrap ap (zt.refl _ _ _))),?_⟩;rw [ae.out,ay,az.out];have:=dv;rw [cg,bc,a6.out] at this;exact⟨tv,lp,this⟩
