/- PARTS OF THE PROOF. -/
import Derived.Test.YtofppfoioodblaaGreatDoorTC05
set_option maxRecDepth 8000
set_option maxHeartbeats 4000000
open Go.Proofs.Tryz
namespace Go.Proofs.YtofppfoioodblaaGreatDoor
section
open Go Go.RowKit Go.Shelf Go.Extern.Stop Go.Stop Go.Extern Go.Lib
attribute [local go_sem] Oper.semAt_some zB zp
theorem zlg(a b c a' b' c':Int)(w:World):(binOp .eql 197 (.agg #[.int .u32 a,.int .i64 b,.int .i64 c]) (.agg #[.int .u32 a',.int .i64 b',.int .i64 c'])).run prog w=.ok (.bool ((a==a')&&((b==b')&&(c==c')))) w:=by
 rw [run_eql_struct];simp [go_sem]
 by_cases h1:a=a'<;>by_cases h2:b=b'<;>by_cases h3:c=c'<;>simp [h1,h2,h3]
theorem Xe(n e:ZA)(l:List ZA)(v:Int):qu n (e::l) v=if e=n then v else qu n l e.2.1:=rfl
def zeP(l:List ZA)(n:ZA)(vb:Nat)(W0:World)(k:Nat)(X:Nat->Prop)(W:World):Prop:=
 Fr (λk=>k=vb) W0 X W/\k<=l.length/\∃v,Blk W vb #[.int .i64 v] 3/\qu n (l.drop k) v=qu n l 0
theorem zeP.stab {l:List ZA}{n:ZA}{vb:Nat}{W0:World}{k:Nat}{X X':Nat->Prop}{W W':World}(h1:vb<W0.heap.size)
 (h:zeP l n vb W0 k X W) (hm:Mod X W W') (hx:∀k,X' k->X k∨(W.heap.size<=k/\k<W'.heap.size)):zeP l n vb W0 k X' W':=by
 obtain⟨aa,hk,v,kv,ha⟩:=h;exact⟨aa.step hm hx,hk,v,kv.kept (aa.block hm h1),ha⟩
theorem zdt(B:Nat)(f:yW)(t:List Nat)(ow:Own)(ent:Value)(hent:∃a b c d,ent=.agg #[a,b,c,d])(hsw:f.sw=false)(w:World)(h:zJ B f t ow w):
 Calls prog 311 #[.pointer (some ⟨B,0,none⟩),ent] w λe w'=>e=.returned (.tuple #[.slice none 0 0,.bool false])/\Below w.heap.size w w':=by
 obtain⟨a,b,c,d,rfl⟩:=hent;obtain⟨aa,bb,ev,hB, -⟩:=h;have e0:=hB.cell;unfold vH at e0;rw [hsw] at e0;have ac:=hB.lt;clear hB;refine zm func311 rfl ?_;simp only [ntmps311,R8,Nat.reduceAdd,Nat.reduceSub];go_wp2;go_step3;go_wp2;rw [Exit.noGoto_ret];exact jU (v:=.tuple #[.slice none 0 0,.bool false]) (by simp [results,Tryz.results311,go_sem]) ⟨rfl,pbx⟩
theorem zbJ(B:Nat)(f:yW)(t:List Nat)(ht:t≠ [])(ow:Own)(ent:Value)(hent:∃a b c d,ent=.agg #[a,b,c,d])(hsw:f.sw=true)(w:World)(h:zJ B f t ow w)(hl:f.eras.length<=536870912):
 Calls prog 311 #[.pointer (some ⟨B,0,none⟩),ent] w (zaC B (xC f (qu (vC f.eras) f.eras 0) false) t ow w (.tuple #[.slice none 0 0,.bool true])):=by
 obtain⟨a,b,c,d,rfl⟩:=hent;have h0:=h;have ak:=zhM B f t ow;obtain⟨ba,bb,bh,hB, -⟩:=h;have e0:=hB.cell;unfold vH at e0;rw [hsw] at e0;have aw:=hB.lt;clear hB;replace h0:=hid h0;replace ak:=hid ak;refine zm func311 rfl ?_;simp only [ntmps311,R8,Nat.reduceAdd,Nat.reduceSub];go_wp2;go_step3;go_wp2;go_step3
 go_wp2_with (go_at_call 227;refine(ak.out _ ((zJ.loc B f t).below h0.out (pbx))).mono ?_;rintro e w1 ⟨ev,rfl,rfl,hR,o2⟩;replace o2:Hid (∀_,_):=o2)
 obtain⟨fb,ah⟩:∃fb,fb=w.heap.size:=⟨_,rfl⟩;obtain⟨W0,aj⟩:∃W0,W0=((((w.alloc (.cells #[.pointer (some ⟨B,0,none⟩)] 111)).alloc (.cells #[a,b,c,d] 241)).alloc (.cells #[.int .i64 0] 3)).alloc (.cells #[ev] 217)):=⟨_,rfl⟩;have bi:W0.heap.size=fb+4:=by rw [aj,ah];simp
 have ai:Below w.heap.size w W0:=by rw [aj];exact pbx
 have kf:Blk W0 fb #[.pointer (some ⟨B,0,none⟩)] 111:=by rw [aj,ah];exact bkx
 have kv:Blk W0 (fb+1+1) #[.int .i64 0] 3:=by rw [aj,ah];exact bkx
 have kc:Blk W0 (fb+1+1+1) #[ev] 217:=by rw [aj,ah];exact bkx
 have a6:Row W0 197 3 ev f.eras.length (f.eras.flatMap ji):=by rw [aj];exact hR.below ((N2 _ _).alloc (N0 _) _)
 have be:B<fb:=by rw [ah];exact aw
 have bk:w.heap.size<=fb:=by omega
 rw [← aj,← ah];replace ah:=hid ah;clear aj e0 hR o2;obtain⟨⟨ep,ve,st⟩,hn⟩:∃n,vC f.eras=n:=⟨_,rfl⟩;have af:=Xc B f t ow;rw [hn] at af;replace hn:=hid hn;unfold Yg at af;replace af:=hid af
 refine yJ (gf:=322) (lb:=#[.pointer (some ⟨fb+1+1+1,0,none⟩)]) rfl (enters_of func322 (by kernel_rfl) rfl)
  (Xb (fb+1+1+1) ev f.eras (by omega)) (λ_=>rfl)
  (λk X W=>zeP f.eras (ep,ve,st) (fb+1+1) W0 k X W)
  (λc X W=>c=.exit 0/\Fr (λk=>k=fb+1+1) W0 X W/\Blk W (fb+1+1) #[.int .i64 (qu (ep,ve,st) f.eras 0)] 3)
  (λk X X' W W' h hm hx=>h.stab (by omega) hm hx)
  (λc s X X' W W' h hm hx=>⟨h.1,h.2.1.step hm hx,h.2.2.kept (h.2.1.block hm (by omega))⟩)
  (λk X W h=>⟨kc.mod h.1.2 (by omega),(a6.mod h.1.2 (λg hg e=>a6.ne_blk kv (by decide) hg e)).src⟩)
  (λk X W h=>⟨h.1.2.size,λk hk=>(h.1.1 k hk).2⟩)
  ⟨Fr.refl _ _,Nat.zero_le _,0,kv,rfl⟩
  7 197 (λx=> #[.int .u32 x.1,.int .i64 x.2.1,.int .i64 x.2.2]) ?assign ?body ?done ?stop
 case assign=>
  intro l' x W K hK;rw [zW] at hK⊢;unfold Yg at hK⊢
  gi_wp2
  exact hK
 case body=>
  rintro l' k x cb X X1 W1 W h1⟨ad,hk,v,ao,ha⟩ ay bf bg bl kx bm _;obtain⟨xe,xv,xs⟩:=x;have am:=kf.mod ad.2 (by omega);have an:Below w.heap.size w W:=ai.trans (ad.below (by have:=ai.size;omega) (λk hk=>by omega));have hF:zJ B f t ow W:=(zJ.loc B f t).below h0.out an;have a7:=zlg xe xv xs ep ve st;obtain⟨q,aq⟩:∃q:Bool,((xe:Int)==ep &&(xv==ve && xs==st))=q:=⟨_,rfl⟩;rw [aq] at a7;replace aq:=hid aq
  have a3:f.eras.drop k=(xe,xv,xs)::f.eras.drop (k+1):=by
   have aw:=(N6.1 ay);rw [List.drop_eq_getElem_cons aw.1,aw.2]
  rw [a3] at ha;have bd:=(N6.1 ay).1;replace hF:=hid hF;replace ha:=hid ha;replace a3:=hid a3;replace ay:=hid ay;rw [zW];unfold Yg;simp only at kx
  gi_wp2
  refine jQ [O 0,O 1,E 2,O 3] none (λw'=>Blk w' cb #[.int .u32 xe,.int .i64 xv,.int .i64 xs] 197/\Blk w' fb #[.pointer (some ⟨B,0,none⟩)] 111/\True) ⟨kx.drew,am.drew,trivial⟩ ?_
  refine Wd ?_
  refine zc rfl (λK hK=>?_)
  go_wp2_with (go_at_call 308;refine(af.out _ ((zJ.loc B f t).below hF.out (Below.drew (N2 _ _))) (by omega)).mono ?_;rintro e w1 ⟨rfl,a2⟩)
  have az:=kx.drew.call a2;have a5:=am.drew.call a2;have ap:=ao.drew.call a2;refine hK.out _ _ (λ_=>⟨az,a5,trivial⟩) ?_;clear hK K
  refine Wd ?_
  refine ze ?_;have ax:Below W.heap.size W w1:=pbx;clear a7 az a5 am
  cases q
  ·have hq:¬(xe,xv,xs)=(ep,ve,st):=λh=>by
    have:=aq.out;simp only [Prod.mk.injEq] at h;obtain⟨rfl,rfl,rfl⟩:=h;simp at this
   have ag:qu (ep,ve,st) (f.eras.drop (k+1)) xv=qu (ep,ve,st) f.eras 0:=by
    rw [← ha.out,Xe,if_neg hq]
   have az:=kx.call ax;have ex:=az.cell;have a8:=ap.cell;have bj:=ap.frozen;have bc:=ap.lt;clear hq;replace ag:=hid ag
   gi_wp2
   have hm:Mod (λk=>k=fb+1+1) W (w1.setCell ⟨fb+1+1,0,none⟩ (.int .i64 xv)):=(Mod.of_below (λk=>k=fb+1+1) ax).thenSet (p:=⟨fb+1+1,0,none⟩) rfl _;exact⟨⟨ad.mod hm (λk _ h=>h),by omega,xv,ap.set _,ag.out⟩,jJ.of_mod hm (λk _ hX he=>by have:=ad.1 k hX;omega)⟩
  have hq:(xe,xv,xs)=(ep,ve,st):=by
   have:=aq.out;simp only [Bool.and_eq_true,beq_iff_eq] at this;obtain⟨h1,h2,h3⟩:=this;simp only [Prod.mk.injEq];exact⟨by omega,h2,h3⟩
  have ag:v=qu (ep,ve,st) f.eras 0:=by rw [← ha.out,Xe,if_pos hq]
  clear hq;replace ag:=hid ag
  gi_wp2
  exact⟨⟨rfl,ad.mod (Mod.of_below (λ_=>False) ax) (λ_ _ h=>h.elim),by rw [← ag.out];exact ap⟩,jJ.of_mod (Mod.of_below (λ_=>False) ax) (λ_ _ _ h=>h)⟩
 case done=>
  rintro D k X W hD a9 a4⟨ad,hk,v,ao,ha⟩ ae;obtain rfl:k=f.eras.length:=a4;rw [List.drop_length] at ha;have ag:v=qu (ep,ve,st) f.eras 0:=ha;rw [ag] at ao;have an:Below w.heap.size w W:=ai.trans (ad.below (by have:=ai.size;omega) (λk hk=>by omega));have am:=kf.mod ad.2 (by omega);have ef:=am.cell;have a8:=ao.cell;have ac:=Xd B f t (ow.cut w) (qu (ep,ve,st) f.eras 0) false W ((zJ.loc B f t).cut h0.out an) hl;have a0:=(N5.1 ae).1;have au:w.heap.size<=D:=by have:=ai.size;omega
  replace ac:=hid ac
  go_wp2_with (go_at_call 336;refine ac.out.mono ?_;rintro e w2 ⟨rfl,a1,ar,al⟩;replace al:Hid (zJ _ _ _ _ _):=al)
  rw [Exit.noGoto_ret];have aa:=ar.free ht au a0
  exact jb (D:=D) (v:=.tuple #[.slice none 0 0,.bool true]) (aa.1.trans ae) (by simp [results,Tryz.results311,go_sem])
   ⟨rfl,a1,(zt.wrap an ar).putNew D _ au,by rw [hn.out];exact(zJ.loc B _ t).put ht al.out aa.2 _⟩
 case stop=>
  rintro D c X W hD a9⟨rfl,ad,ao⟩ ae;have an:Below w.heap.size w W:=ai.trans (ad.below (by have:=ai.size;omega) (λk hk=>by omega));have am:=kf.mod ad.2 (by omega);have ef:=am.cell;have a8:=ao.cell;have ac:=Xd B f t (ow.cut w) (qu (ep,ve,st) f.eras 0) false W ((zJ.loc B f t).cut h0.out an) hl;have a0:=(N5.1 ae).1;have au:w.heap.size<=D:=by have:=ai.size;omega
  replace ac:=hid ac
  go_wp2_with (go_at_call 336;refine ac.out.mono ?_;rintro e w2 ⟨rfl,a1,ar,al⟩;replace al:Hid (zJ _ _ _ _ _):=al)
  rw [Exit.noGoto_ret];have aa:=ar.free ht au a0
  exact jb (D:=D) (v:=.tuple #[.slice none 0 0,.bool true]) (aa.1.trans ae) (by simp [results,Tryz.results311,go_sem])
   ⟨rfl,a1,(zt.wrap an ar).putNew D _ au,by rw [hn.out];exact(zJ.loc B _ t).put ht al.out aa.2 _⟩
end
section
open Go
theorem Vq:∀(n:Nat)(ws:List (MId×zA)) (x:zA),zde ws->(zX n ws x).2.length+(zX n ws x).1.length<=(del x.1 ws).length+1
 |0,ws,x,_=>by simp [zX];omega
 |n+1,ws,x,hw=>by
  unfold zX
  cases hl:zE (x.1.1,(x.1.2+1)% 4294967296) (del x.1 ws)with
  |none=>simp;omega
  |some y=>
   have h1:=Vq n (del x.1 ws) y (hw.del _);have hy:y.1=(x.1.1,(x.1.2+1)% 4294967296):=((hw.del x.1) _ (xD hl)).1;have hlen:=zaz hl;rw [← hy] at hlen;simp;omega
theorem zhP {V:Type}(k:MId)(v:V):∀l:List (MId×V),(put k v l).length<=l.length+1
 | []=>by simp [put]
 |(k',v')::l=>by
  have ih:=zhP k v l;unfold put
  split
  ·simp
  simp;exact ih
def Zc(b:vL):Nat:=b.log.length+b.ws.length
theorem zjT(b:vL)(m:zA):(xL b m).1.log=b.log++(xL b m).2.1:=by
 unfold xL
 split
 ·simp
 split
 ·split<;>simp
 simp
theorem zl7 {b:vL}(hok:xh b)(m:zA):Zc (xL b m).1<=Zc b+1:=by
 unfold xL Zc
 split
 ·simp
 split
 ·split
  ·simp
  have:=zhP m.1 m b.ws;simp;omega
 have h1:=Vq b.ws.length b.ws m hok.keys
 have h2:=YS m.1 b.ws;simp;omega
theorem zjU {ws:List (MId×zA)}(h:zde ws){m:zA}(hm:zx m=true):zde (put m.1 m ws):=by
 induction ws with
 |nil=>intro p hp;simp [put] at hp;subst hp;exact⟨rfl,hm⟩
 |cons q l ih=>
  obtain⟨k,v⟩:=q;intro p hp;unfold put at hp
  split at hp
  ·rcases List.mem_cons.1 hp with rfl|h1
   ·exact⟨rfl,hm⟩
   exact h p (U7 _ h1)
  rcases List.mem_cons.1 hp with rfl|h1
  ·exact h _ (List.mem_cons_self ..)
  exact ih (λq hq=>h q (U7 _ hq)) p h1
theorem zhQ {b:vL}(hok:xh b)(m:zA):xh (xL b m).1:=by
 unfold xL
 split
 ·exact hok
 rename_i hr
 have aa:zx m=true:=by simpa using hr
 split
 ·split
  ·exact hok
  exact⟨hok.sixteen,hok.most,zjU hok.keys aa⟩
 exact hok.row aa _
theorem Vr(b:vL):∀(l:List zA)(m:zA),zY b (l++ [m])=((xL (zY b l).1 m).1,(zY b l).2++(xL (zY b l).1 m).2.1)
 | [],m=>by simp [zY]
 |x::l,m=>by
  have ih:=Vr (xL b x).1 l m;simp [zY,ih]
theorem qK {b:vL}(hok:xh b):∀(l:List zA),xh (zY b l).1/\Zc (zY b l).1<=Zc b+l.length/\(zY b l).1.log=b.log++(zY b l).2
 | []=>⟨hok,N0 _,by simp [zY]⟩
 |m::l=>by
  have h1:=qK (zhQ hok m) l;have h2:=zl7 hok m;have h3:=zjT b m;refine⟨h1.1,?_,?_⟩
  ·have:=h1.2.1;simp only [zY,List.length_cons];omega
  simp only [zY];rw [h1.2.2,h3,List.append_assoc]
theorem Xf {b:vL}(hok:xh b)(l:List zA):(zY b l).2.length<=Zc b+l.length:=by
 have h:=qK hok l;have h2:=congrArg List.length h.2.2;have h3:=h.2.1;rw [N1] at h2;unfold Zc at h3⊢;omega
theorem zfQ:xh qe:=⟨rfl,by simp [qe],by simp [qe]⟩
end
open Go Go.RowKit Go.Shelf Go.Extern.Stop Go.Stop Go.Extern
attribute [local go_sem] Oper.semAt_some zB zp
theorem zt.grownNew {t:List Nat}{ow o1:Own}{W W1 W2:World}{row:Option Nat}(h:zt t ow W o1 W1)(hg:W1.grownBy W2 row)(hr:∀k,row=some k->W.heap.size<=k):zt t ow W o1 W2:=
 ⟨h.mod.trans (Mod.grown (X:=λk=>row=some k) hg (λ_ h=>h)) (λ_ _ e=>e) (λk hk e=>by have:=hr k e;omega),h.agree⟩
theorem zt.cut {t:List Nat}{ow o1:Own}{W W1:World}(h:zt t ow W o1 W1):zt t ow W (o1.cut W1) W1:=⟨h.mod,λk hk=>(Own.cut_old (Nat.lt_of_lt_of_le hk h.size)).trans (h.agree k hk)⟩
theorem yI.cutHere {t:List Nat}{A:Own->World->Prop}(hA:yI t A){ow:Own}{w:World}(h:A ow w):A (ow.cut w) w:=hA.cut h (N2 _ _)
theorem zt.free2 {t:List Nat}{ow ow2:Own}{w W w2:World}(h:zt t (ow.cut w) W ow2 w2){k:Nat}(hk:k<w.heap.size)(ho:ow k=[])(hs:w.heap.size<=W.heap.size):ow2 k=[]:=
 (h.agree k (Nat.lt_of_lt_of_le hk hs)).trans ((Own.cut_old hk).trans ho)
def zhR(bb:Nat)(t:List Nat)(ow:Own)(w:World)(R:vL×List zA)(e:Ending)(w':World):Prop:=
 ∃v ow',e=.returned v/\zt t ow w ow' w'/\j2 bb R.1 t ow' w'/\Row w' 78 3 v R.2.length (R.2.flatMap zg)/\(∀g,v.ownBlock=some g->w.heap.size<=g/\ow' g=[])
def zlh(bb:Nat)(t:List Nat)(ow:Own)(w:World)(b:vL)(l:List zA)(k:Nat)(v:Value)(W:World):Prop:=
 k<=l.length/\∃ow1,zt t ow w ow1 W/\j2 bb (zY b (l.take k)).1 t ow1 W/\Row W 78 3 v (zY b (l.take k)).2.length ((zY b (l.take k)).2.flatMap zg)/\(∀g,v.ownBlock=some g->w.heap.size<=g/\ow1 g=[])
theorem zdu(B bb:Nat)(b:vL)(t:List Nat)(ht:t≠ [])(ow:Own)(mv:Value)(l:List zA)(w:World)(hB:w.cell? ⟨B,0,none⟩=some (.pointer (some ⟨bb,0,none⟩)))(hBt:¬Sub t (ow B))
 (hb:j2 bb b t ow w) (hm:qJ w mv l) (hmt:∀a l c,mv=.slice (some a) l c->¬Sub t (ow a.block)) (hl:Zc b+l.length<=536870912):
 Calls prog 335 #[.pointer (some ⟨B,0,none⟩),mv] w (zhR bb t ow w (zY b l)):=by
 have a3:=hb.1;obtain⟨a,c,rfl⟩:=hm.shape;have a5:=jO hB
 go_enter func335,ntmps335
 go_wp2
 go_loopw [5,12] (λp5 p12 wr=>∃k:Nat,p12=.int .i64 k/\zlh bb t ow w b l k p5 wr) (λ_ p12 _=>l.length - (intOf p12).toNat)
 case atStart=>exact⟨0,rfl,Nat.zero_le _,ow,zt.refl _ _ _,hb,z7 _ _ _,by simp [Value.ownBlock]⟩
 case round=>
  obtain⟨k,rfl,hk,a0,an,af,ap,ag⟩:=hrel
  by_cases hlt:k<l.length
  ·obtain⟨x,hx⟩:∃x,l[k]?=some x:=⟨_,N3 hlt⟩
   rcases hm.2 with⟨h,h'⟩|⟨mb,off,cap,h,hc, -⟩
   ·omega
   cases h
   have a7:=hm.step an hmt
   have aa:∀j,j<3->wr.cell? ⟨mb,off+(k*3+j),none⟩=(zg x)[j]?:=λj hj=>by
    have h1:=x7 l k x hx j hj
    rcases a7.2 with⟨h, -⟩|⟨mb',off',cap',h, -,hr⟩
    ·cases h
    cases h
    cases hu:(zg x)[j]? with
    |none=>simp [zg] at hu;omega
    |some u=>exact hr _ u (h1.trans hu)
   have c0:wr.cell? ⟨mb,off+k*3,none⟩=(zg x)[0]?:=aa 0 (by omega);have c1:wr.cell? ⟨mb,off+k*3+1,none⟩=(zg x)[1]?:=aa 1 (by omega);have c2:wr.cell? ⟨mb,off+k*3+2,none⟩=(zg x)[2]?:=aa 2 (by omega);have a1:l.take (k+1)=l.take k++ [x]:=by rw [List.take_add_one,hx];rfl
   have ai:=Vr b (l.take k) x;rw [← a1] at ai;have ar:=qK a3 (l.take k);have aj:=Xf a3 (l.take k);rw [N7] at ar aj;obtain⟨⟨i,cc⟩,d⟩:=x;simp only [zg,List.getElem?_cons_zero,List.getElem?_cons_succ] at c0 c1 c2;have eB:wr.cell? ⟨B,0,none⟩=some (.pointer (some ⟨bb,0,none⟩)):=(an.cell a5 hBt).trans hB;have ak:=jO eB;have aw:¬Sub t (a0 B):=by rw [an.agree B a5];exact hBt
   clear aa a7;replace ai:=hid ai;replace a1:=hid a1;replace hx:=hid hx;replace ag:=hid ag;replace af:=hid af;replace hmt:=hid hmt;go_wp2;clear c0 c1 c2;obtain⟨W1,ah⟩:∃W1,W1=(wr.alloc (.cells #[.int .i64 i,.int .u32 cc,.string (bs d)] 78)).drew:=⟨_,rfl⟩;have ae:Below wr.heap.size wr W1:=by rw [ah];exact pbx
   have kx:Blk W1 wr.heap.size #[.int .i64 i,.int .u32 cc,.string (bs d)] 78:=by rw [ah];exact bkx
   have a2:=(ae.cell ak).trans eB;have bc:W1.heap.size=wr.heap.size+1:=by rw [ah];simp
   refine zd [O 0,O 1,O 2,O 3,O 4,E 5,O 6,O 7,O 8,O 9,O 10] none (λw'=>Blk w' wr.heap.size #[.int .i64 i,.int .u32 cc,.string (bs d)] 78/\w'.cell? ⟨B,0,none⟩=some (.pointer (some ⟨bb,0,none⟩))/\True) (by rw [← ah];exact⟨kx,a2,trivial⟩) ?_;rw [← ah];clear ah eB
   refine Wo ?_
   refine zc rfl (λK hK=>?_);have ac:=zjQ bb (zY b (l.take k)).1 t ht (a0.cut wr) ((i,cc),d) W1 ((j2.loc bb _ t).cut af.out ae) (by have:=ar.2.1;unfold Zc at this hl;omega);unfold y7 at ac;replace ac:=hid ac
   go_wp2_with (go_at_call 355;refine ac.out.mono ?_;rintro e w2 ⟨nv,a6,rfl,ao,au,bd,a9⟩;replace a9:Hid (∀_,_):=a9;replace au:Hid (j2 _ _ _ _ _):=au)
   have be:=ao.free ht (N0 _) (by omega);refine hK.out _ _ (λ_=>⟨kx.kept be.1,(ao.cell (p:=⟨B,0,none⟩) (by show B<_;omega) (by rw [Own.cut_old ak];exact aw)).trans a2,trivial⟩) ?_;clear hK K
   refine Wo ?_
   refine ze ?_;have ba:=Hid.out ag;have am:=(ap.below ae).step ao (λg hg=>by rw [Own.cut_old (ap.lt hg),(ba g hg).2];exact zj ht)
   have ad:(zY b (l.take k)).2.length+(xL (zY b (l.take k)).1 ((i,cc),d)).2.1.length<=1073741824:=by
    have h1:=Xf a3 (l.take (k+1));rw [ai.out] at h1;simp only [N1,N7] at h1;omega
   clear ba a2 kx;replace ad:=hid ad
   go_wp2_with (at_builtin
                obtain⟨v',W3,aq,az,ay,al⟩:=zQ zbD am bd.src (jv _) ad.out 42;refine zw rfl _ _ _ rfl rfl rfl aq ?_
                clear aq)
   go_roundw
   case rel=>
    have a4:zt t ow w a6 w2:=an.trans (zt.wrap ae ao);have ax:=ag.out;have a8:∀g,_:=λg hg=>(ao.free2 (ap.lt (g:=g) hg) (ax g hg).2 ae.size)
    refine⟨k+1,by go_num,by omega,a6.cut w2,(zt.cut a4).grownNew ay (λg hg=>(ax g hg).1),?_,?_,?_⟩
    ·rw [ai.out]
     exact(j2.loc bb _ t) _ _ _ _ ((j2.loc bb _ t).cutHere au.out) ay.size (λg hg hs=>⟨rfl,ay.block g hg (λe=>by
      rw [Own.cut_old hg,a8 g e.symm] at hs;exact zj ht hs)⟩)
    ·rw [ai.out]
     simp only [N1,U5];exact az
    intro g hg
    rw [hg] at al
    rcases al with h|h
    ·exact⟨(ax g h.symm).1,by rw [Own.cut_old (am.lt h.symm)];exact a8 g h.symm⟩
    simp at h
    exact⟨by rw [h];exact a4.size,Own.cut_new (by omega)⟩
   case measure=>simp [intOf];omega
  obtain rfl:k=l.length:=by omega
  rw [List.take_length] at af ap;replace ag:=hid ag;replace af:=hid af;clear hm hmt hB;go_wp2;go_ret
  exact⟨_,a0,rfl,an,af.out,ap,ag.out⟩
def zli(B:Nat)(t:List Nat)(ow:Own)(w:World)(f:yW)(l:List zA)(b:Bool)(e:Ending)(w':World):Prop:=
 ∃v ow',e=.returned (.tuple #[v,.bool b])/\zt t ow w ow' w'/\zJ B f t ow' w'/\Row w' 78 3 v l.length (l.flatMap zg)/\(∀g,v.ownBlock=some g->w.heap.size<=g/\ow' g=[])
theorem zbK {B:Nat}{f:yW}{t:List Nat}{ow:Own}{w:World} :zJ B f t ow w->ow B=t:=λ⟨_,_,_,_,_,_,o1,_⟩=>o1
theorem zhS(B:Nat)(f:yW)(t:List Nat)(ow:Own)(e:jH)(mv:Value)(w:World)(h:zJ B f t ow w)
 (hm:qJ w mv e.msgs) (hmt:∀a l c,mv=.slice (some a) l c->¬Sub t (ow a.block)) (hl:Zc f.book+e.msgs.length<=536870912):
 Calls prog 309 #[.pointer (some ⟨B,0,none⟩),ZG e mv] w (zli B t ow w {f with book:=(zY f.book e.msgs).1} (zY f.book e.msgs).2 false):=by
 obtain⟨am,bb,ev,hB,aj,hR,o1,o2⟩:=h;obtain⟨W1,aa⟩:∃W1,W1=(w.alloc (.cells #[.int .i64 e.kind,.int .u32 e.epoch,.int .i64 e.ver,mv] 241)).drew:=⟨_,rfl⟩;have ad:Below w.heap.size w W1:=by rw [aa];exact pbx
 have kx:Blk W1 w.heap.size #[.int .i64 e.kind,.int .u32 e.epoch,.int .i64 e.ver,mv] 241:=by rw [aa];exact bkx
 have ap:W1.heap.size=w.heap.size+1:=by rw [aa];simp
 have ak:=hB.lt;unfold vH at hB;have al:=hB.call ad;have ag:t++ [0] ≠ []:=by simp
 have hd:=zdu B bb f.book (t++ [0]) ag (ow.cut w) mv e.msgs W1 (al.cell 0) (by rw [Own.cut_old ak,o1];exact zU t 0) ((j2.loc bb f.book (t++ [0])).cut aj ad) (hm.below ad)
  (λa l c h hs=>by
   rcases Nat.lt_or_ge a.block w.heap.size with h1|h1
   ·rw [Own.cut_old h1] at hs;exact hmt a l c h ((Sub.child t 0).trans hs)
   rw [Own.cut_new h1] at hs;exact zj ag hs) hl
 replace hd:=hid hd;replace hmt:=hid hmt;replace o2:=hid o2;replace hm:=hid hm;replace aj:=hid aj;unfold ZG
 go_enter func309,ntmps309
 go_wp2;refine zd [O 0,O 1,O 2,O 3,O 4,E 5,O 6,O 7] none (λw'=>Blk w' w.heap.size #[.int .i64 e.kind,.int .u32 e.epoch,.int .i64 e.ver,mv] 241/\True) (by rw [← aa];exact⟨kx,trivial⟩) ?_;rw [← aa];clear aa
 refine Wb ?_
 refine zc rfl (λK hK=>?_)
 go_wp2_with (go_at_call 335;refine hd.out.mono ?_;rintro r w2 ⟨nv,an,rfl,ae,ai,ao,af⟩;replace af:Hid (∀_,_):=af;replace ai:Hid (j2 _ _ _ _ _):=ai)
 have ac:=ae.free ag (N0 _) (by omega);refine hK.out _ _ (λ_=>⟨kx.kept ac.1,trivial⟩) ?_;clear hK K
 refine Wb ?_
 refine ze ?_;go_wp2;refine bodyPost_ret (v:=.tuple #[nv,.bool false]) (by simp [results,Tryz.results309,go_sem]) rfl ?_;have ah:=(zt.wrap ad ae).mono (Sub.child t 0);refine⟨nv,an,rfl,ah,⟨am,bb,ev,?_,ai.out,?_,?_,?_⟩,ao,λg hg=>⟨by have:=(af.out g hg).1;omega,(af.out g hg).2⟩⟩
 ·exact al.kept (ae.block al.lt (by rw [Own.cut_old ak,o1];exact zU t 0))
 ·exact(hR.below ad).step ae (λg hg=>by rw [Own.cut_old (hR.lt hg),o2.out g hg];exact zU t 0)
 ·rw [ah.agree B ak,o1]
 intro g hg;rw [ah.agree g (hR.lt hg),o2.out g hg]
theorem zhT(B:Nat)(f:yW)(t:List Nat)(ow:Own)(e:jH)(mv:Value)(w:World)(h:zJ B f t ow w)(hc:ye (vC f.eras).2.1 e.ver≠0)(hl:f.eras.length<=536870912):
 Calls prog 310 #[.pointer (some ⟨B,0,none⟩),ZG e mv] w λr w'=>r=.returned (.tuple #[.slice none 0 0,.bool false])/\Below w.heap.size w w':=by
 have aa:=Xc B f t ow;obtain⟨⟨ep,ve,st⟩,hn⟩:∃n,vC f.eras=n:=⟨_,rfl⟩;rw [hn] at aa hc;unfold Yg at aa;simp only at hc;obtain⟨W1,ac⟩:∃W1,W1=(w.alloc (.cells #[.int .i64 e.kind,.int .u32 e.epoch,.int .i64 e.ver,mv] 241)).drew:=⟨_,rfl⟩;have af:Below w.heap.size w W1:=by rw [ac];exact pbx
 have kx:Blk W1 w.heap.size #[.int .i64 e.kind,.int .u32 e.epoch,.int .i64 e.ver,mv] 241:=by rw [ac];exact bkx
 have hF:Hid (zJ B f t ow W1):=(zJ.loc B f t).below h af;have ah:=zhL ep ve st;have t1:(ye ve e.ver !=0)=true:=by simpa using hc
 clear hc h;replace aa:=hid aa;replace hn:=hid hn;unfold ZG
 go_enter func310,ntmps310
 go_wp2;refine zd [O 0,O 3,O 4,E 1,O 2,E 5,O 6] none (λw'=>Blk w' w.heap.size #[.int .i64 e.kind,.int .u32 e.epoch,.int .i64 e.ver,mv] 241/\True) (by rw [← ac];exact⟨kx,trivial⟩) ?_;rw [← ac];clear ac
 refine Wb ?_
 refine zc rfl (λK hK=>?_)
 go_wp2_with (go_at_call 308;refine(aa.out _ hF.out (by omega)).mono ?_;rintro r w2 ⟨rfl,ad⟩)
 have k2:=kx.call ad;refine hK.out _ _ (λ_=>⟨k2,trivial⟩) ?_;clear hK K
 refine Wb ?_
 refine zc rfl (λK hK=>?_)
 go_wp2_with (go_at_call 110;refine(qc _ _ _).mono ?_;rintro r w3 ⟨rfl,ae⟩)
 have k3:=k2.call ae;refine hK.out _ _ (λ_=>⟨k3,trivial⟩) ?_;clear hK K
 refine Wb ?_
 refine ze ?_;have ag:Below w.heap.size w w3:=zh (zh af ad) ae;go_wp2;go_ret2
 exact⟨rfl,ag⟩
theorem zfR(B:Nat)(f:yW)(t:List Nat)(ow:Own)(e:jH)(mv:Value)(w:World)(h:zJ B f t ow w)(hc:ye (vC f.eras).2.1 e.ver=0)(hl:f.eras.length<=536870912):
 Calls prog 310 #[.pointer (some ⟨B,0,none⟩),ZG e mv] w (zaC B (xC f e.ver true) t ow w (.tuple #[.slice none 0 0,.bool true])):=by
 have aa:=Xc B f t ow;obtain⟨⟨ep,ve,st⟩,hn⟩:∃n,vC f.eras=n:=⟨_,rfl⟩;rw [hn] at aa hc;unfold Yg at aa;simp only at hc;obtain⟨W1,ad⟩:∃W1,W1=(w.alloc (.cells #[.int .i64 e.kind,.int .u32 e.epoch,.int .i64 e.ver,mv] 241)).drew:=⟨_,rfl⟩;have ah:Below w.heap.size w W1:=by rw [ad];exact pbx
 have kx:Blk W1 w.heap.size #[.int .i64 e.kind,.int .u32 e.epoch,.int .i64 e.ver,mv] 241:=by rw [ad];exact bkx
 have hF:Hid (zJ B f t ow W1):=(zJ.loc B f t).below h ah;have al:=zhL ep ve st;have t1:(ye ve e.ver !=0)=false:=by simpa using hc
 clear hc;replace aa:=hid aa;replace hn:=hid hn;replace h:=hid h;unfold ZG
 go_enter func310,ntmps310
 go_wp2;refine zd [O 0,O 3,O 4,E 1,O 2,E 5,O 6] none (λw'=>Blk w' w.heap.size #[.int .i64 e.kind,.int .u32 e.epoch,.int .i64 e.ver,mv] 241/\True) (by rw [← ad];exact⟨kx,trivial⟩) ?_;rw [← ad];clear ad
 refine Wb ?_
 refine zc rfl (λK hK=>?_)
 go_wp2_with (go_at_call 308;refine(aa.out _ hF.out (by omega)).mono ?_;rintro r w2 ⟨rfl,af⟩)
 have k2:=kx.call af;refine hK.out _ _ (λ_=>⟨k2,trivial⟩) ?_;clear hK K
 refine Wb ?_
 refine zc rfl (λK hK=>?_)
 go_wp2_with (go_at_call 110;refine(qc _ _ _).mono ?_;rintro r w3 ⟨rfl,ag⟩)
 have k3:=k2.call ag;refine hK.out _ _ (λ_=>⟨k3,trivial⟩) ?_;clear hK K
 refine Wb ?_
 refine ze ?_;have ai:Below w.heap.size w w3:=zh (zh ah af) ag;have e3:=k3.cell;have ac:=Xd B f t (ow.cut w) e.ver true w3 ((zJ.loc B f t).cut h.out ai) hl;replace ac:=hid ac
 go_wp2_with (go_at_call 336;refine ac.out.mono ?_;rintro r w4 ⟨rfl,aj,ak,ae⟩;replace ae:Hid (zJ _ _ _ _ _):=ae)
 refine bodyPost_ret (v:=.tuple #[.slice none 0 0,.bool true]) (by simp [results,Tryz.results310,go_sem]) rfl ?_;exact⟨rfl,aj,zt.wrap ai ak,ae.out⟩
theorem zJ.count {B:Nat}{f:yW}{t:List Nat}{ow:Own}{w:World}(h:zJ B f t ow w)(c:Int):zJ B {f with count:=c} t ow (w.setCell ⟨B,2,none⟩ (.int .i64 c)):=by
 obtain⟨aa,bb,ev,hB,ac,hR,o1,o2⟩:=h;refine⟨aa,bb,ev,hB.set _,?_,hR.kept (λg hg=>N4 _ _ _ _ (show g≠B from hR.ne_blk hB (by decide) hg)),o1,o2⟩;exact(j2.loc bb f.book (t++ [0])) _ _ _ _ ac (by simp) (λk hk hs=>⟨rfl,N4 _ _ _ _ (show k≠B from λe=>by subst e;rw [o1] at hs;exact zU t 0 hs)⟩)
def Qw(n:Int):Value:=.int .i64 n
theorem zlj(n:Nat)(b:Bool)(x:Int)(w:World):(Instr.checkKey b (n+1) 3 (.int .i64 x)).run prog w=.ok () w:=by
 simp [Instr.checkKey,go_sem]
theorem qg:qt prog 3 Qw where
 eq:=λk k' w=>by
  have h:(Op.equal 3 (Qw k) (Qw k')).run prog w=(Op.equalIn 10000 3 (.int .i64 k) (.int .i64 k')).run prog w:=rfl;rw [h];simp [go_sem]
  by_cases h1:k=k'<;>simp [h1]
 chk:=λb k w=>zlj 9999 b k w
 bits:=λk=>by simp [Qw,Instr.sameBits]
 now:=⟨_,Tryz.underlying3,λk k'=>by
  by_cases h:k=k'
  ·right;subst h;simp [Qw,Instr.sameNow]
  right;simp [Qw,Instr.sameNow,h]⟩
theorem jl(w:World)(o o':Obj):(w.alloc o).putObj w.heap.size o'=w.alloc o':=by
 have h:(w.heap.push o).setIfInBounds w.heap.size o'=w.heap.push o':=by
  apply Array.ext_getElem?
  intro i;simp only [Array.getElem?_setIfInBounds,Array.getElem?_push,Array.size_push]
  by_cases hi:w.heap.size=i
  ·subst hi;simp
  have aa:¬i=w.heap.size:=λe=>hi e.symm
  simp [hi,aa]
 exact congrArg (λhp=>({heap:=hp,tape:=w.tape,drawn:=w.drawn,os:=w.os,output:=w.output} :World)) h
theorem zl8(a b c:Value)(k:Int)(h:k=1):(zE k (put (3:Int) c (put 2 b (put 1 a [])))).getD Value.nilFunc=a:=by subst h;rfl
theorem zl9(a b c:Value)(k:Int)(h:k=2):(zE k (put (3:Int) c (put 2 b (put 1 a [])))).getD Value.nilFunc=b:=by subst h;rfl
theorem zma(a b c:Value)(k:Int)(h:k=3):(zE k (put (3:Int) c (put 2 b (put 1 a [])))).getD Value.nilFunc=c:=by subst h;rfl
theorem zaD {e:jH}(h:Js e=true):e.kind=1∨e.kind=2∨e.kind=3:=by
 rcases Decidable.em (qf e=false)with h1|h1
 ·simp [Js,jC,h1] at h
 unfold qf at h1
 by_cases a:e.kind=1
 ·exact .inl a
 by_cases b:e.kind=2
 ·exact .inr (.inl b)
 by_cases c:e.kind=3
 ·exact .inr (.inr c)
 simp [a,b,c] at h1
theorem Yh {e:jH}(h:Js e=true):e.msgs.length<=64:=by
 rcases Nat.lt_or_ge 64 e.msgs.length with h1|h1
 ·exfalso
  have:(j0 e.msgs).2=101:=by unfold j0;rw [if_pos h1]
  unfold Js jC at h
  split at h
  ·simp at h
  rw [this] at h;simp at h
 exact h1
def zhU(B:Nat)(t:List Nat)(ow:Own)(w:World)(R:yW×List zA×Bool×Int)(e:Ending)(w':World):Prop:=
 ∃v ow',e=.returned (.tuple #[v,.bool R.2.2.1,.int .i64 R.2.2.2])/\zt t ow w ow' w'/\zJ B R.1 t ow' w'/\Row w' 78 3 v R.2.1.length (R.2.1.flatMap zg)/\(∀g,v.ownBlock=some g->w.heap.size<=g/\ow' g=[])
theorem zhV(B:Nat)(f:yW)(t:List Nat)(ht:t≠ [])(ow:Own)(e:jH)(mv:Value)(w:World)(h:zJ B f t ow w)
 (hm:qJ w mv e.msgs) (hmt:∀a l c,mv=.slice (some a) l c->¬Sub t (ow a.block)) (hl:Zc f.book+64<=536870912) (hl2:f.eras.length<=536870912) (hm2:e.msgs.length<=1073741824) (hct:0<=f.count/\f.count<=1073741824):
 Calls prog 261 #[.pointer (some ⟨B,0,none⟩),ZG e mv] w (zhU B t ow w (j4 f e)):=by
 have hr:=zfK e mv;unfold ZG at hr⊢;replace hr:=hid hr;replace hmt:=hid hmt;replace hm:=hid hm;obtain⟨R,hR⟩:∃R,j4 f e=R:=⟨_,rfl⟩;rw [hR];unfold j4 at hR;have ag:=zeN B f t ow;replace ag:=hid ag
 cases hre:Js e
 ·rw [if_pos hre] at hR
  subst hR;replace h:=hid h
  go_enter func261,ntmps261
  go_wp2_with (first
   |(go_at_call 225;refine(ag.out _ ((zJ.loc B f t).below h.out (pbx))).mono ?_;rintro r w1 ⟨rfl,rfl⟩)
   |(go_at_call 307;refine(hr.out _ (hm.out.below (pbx)) hm2).mono ?_;rintro r w2 ⟨rfl,ao⟩;rw [hre]))
  refine bodyPost_ret (v:=.tuple #[.slice none 0 0,.bool false,.int .i64 140]) (by simp [results,Tryz.results261,go_sem]) rfl ?_;have ak:Below w.heap.size w w2:=pbx;exact⟨_,ow,rfl,zt.of_below t ow ak,(zJ.loc B f t).below h.out ak,z7 _ _ _,by simp [Value.ownBlock]⟩
 rw [if_neg (by simp [hre])] at hR
 obtain⟨bb,ev,hB⟩:∃bb ev,Blk w B (vH bb ev f) 284:=h.2.choose_spec.choose_spec.1|>λh=>⟨_,_,h⟩
 have o1:=zbK h;have bc:=hB.lt;unfold vH at hB;obtain⟨⟨ep,ve,st⟩,hn⟩:∃n,vC f.eras=n:=⟨_,rfl⟩;have ae:∀W,zJ B {f with count:=f.count+1} t (ow.cut w) W->_:=λW hF=>Xc B {f with count:=f.count+1} t (ow.cut w) W hF (by show f.eras.length<=_;omega)
 simp only [hn] at ae hR;unfold Yg at ae;replace ae:=hid ae;replace hn:=hid hn;replace h:=hid h;have be:=zhK ep ve st;have a6:f.count+1<=1073741825:=by omega
 obtain⟨a8,a7⟩:=hct
 by_cases hep:e.epoch=ep
 ·subst hep
  rw [if_neg (by simp)] at hR;replace hR:=hid hR
  go_enter func261,ntmps261
  go_wp2_with (first
   |(go_at_call 225;refine(ag.out _ ((zJ.loc B f t).below h.out (pbx))).mono ?_;rintro r w1 ⟨rfl,rfl⟩)
   |(go_at_call 307;refine(hr.out _ (hm.out.below (pbx)) hm2).mono ?_;rintro r w2 ⟨rfl,ao⟩;rw [hre]
     have ak:Below w.heap.size w w2:=zh (zi (N2 _ _) _) ao;have kx:Blk w2 w.heap.size #[.int .i64 e.kind,.int .u32 e.epoch,.int .i64 e.ver,mv] 241:=Blk.call (Blk.new rfl) ao;have kB:=hB.call ak;have eB:=kB.cell;have fB:=kB.frozen
     have lB:=kB.lt))
  clear eB fB;obtain⟨W3,ah⟩:∃W3,W3=w2.setCell ⟨B,2,none⟩ (.int .i64 (f.count+1)):=⟨_,rfl⟩;have ap:zJ B {f with count:=f.count+1} t (ow.cut w) W3:=by rw [ah];exact((zJ.loc B f t).cut h.out ak).count _
  have ar:Blk W3 w.heap.size #[.int .i64 e.kind,.int .u32 e.epoch,.int .i64 e.ver,mv] 241:=by rw [ah];exact kx.other (by simp;omega) _
  have al:zt t ow w (ow.cut w) W3:=by rw [ah];exact⟨(Mod.of_below (λk=>Sub t (ow k)) ak).thenSet (p:=⟨B,2,none⟩) (by simp only [o1];exact Sub.rfl' t) _,λk hk=>Own.cut_old hk⟩
  rw [← ah];clear ah kB lB kx;refine zd [O 0,O 1,O 2,E 3,O 4,O 5] none (λw'=>Blk w' w.heap.size #[.int .i64 e.kind,.int .u32 e.epoch,.int .i64 e.ver,mv] 241/\True) ⟨ar.drew,trivial⟩ ?_
  refine Wb ?_
  refine zc rfl (λK hK=>?_)
  go_wp2_with (go_at_call 308;refine(ae.out _ ((zJ.loc B _ t).below ap (Below.drew (N2 _ _)))).mono ?_;rintro r w4 ⟨rfl,an⟩)
  have au:=ar.drew.call an;refine hK.out _ _ (λ_=>⟨au,trivial⟩) ?_;clear hK
  refine Wb ?_
  refine ze ?_;have bd:= @run_makeMap prog;have e4:=au.cell;have m0:=z6.made w4 Qw;obtain⟨bg,a0,m1⟩:=m0.update qg Tryz.underlying457 1 (.func (.func 309) #[.pointer (some ⟨B,0,none⟩)] #[]);rw [jl] at a0 m1;obtain⟨bf,a1,m2⟩:=m1.update qg Tryz.underlying457 2 (.func (.func 310) #[.pointer (some ⟨B,0,none⟩)] #[]);rw [jl] at a1 m2;obtain⟨aj,az,m3⟩:=m2.update qg Tryz.underlying457 3 (.func (.func 311) #[.pointer (some ⟨B,0,none⟩)] #[]);rw [jl] at az m3;clear m0 m1 m2;have aq:e.kind=1∨e.kind=2∨e.kind=3:=zaD hre;have e5:=(au.alloc aj).cell;have ad:zt t ow w (ow.cut w) (w4.alloc aj):=al.trans ((zt.of_below t (ow.cut w) (Below.drew (N2 _ _))).trans ((zt.of_below t (ow.cut w) an).trans (zt.alloc t (ow.cut w) w4 aj)));have af:zJ B {f with count:=f.count+1} t (ow.cut w) (w4.alloc aj):=(zJ.loc B _ t).below ((zJ.loc B _ t).below ((zJ.loc B _ t).below ap (Below.drew (N2 _ _))) an) ((N2 _ _).alloc (N0 _) _);have a5:qJ (w4.alloc aj) mv e.msgs:=hm.out.step ad hmt.out
  have a4:∀a l c,mv=.slice (some a) l c->¬Sub t (ow.cut w a.block):=λa l c h hs=>by
   rcases Nat.lt_or_ge a.block w.heap.size with h1|h1
   ·rw [Own.cut_old h1] at hs;exact hmt.out a l c h hs
   rw [Own.cut_new h1] at hs;exact zj ht hs
  have a9:e.msgs.length<=64:=Yh hre
  rcases aq with hkind|hkind|hkind
  ·have am:=m3.lookup qg Tryz.underlying457 (z:=.nilFunc) (by kernel_rfl) e.kind
   rw [zl8 _ _ _ _ hkind] at am;unfold Qw at am a0 a1 az;replace hkind:=hid hkind;have ac:=hR.out;rw [if_pos hkind.out] at ac;replace ac:=hid ac;have aa:=zhS B {f with count:=f.count+1} t (ow.cut w) e mv (w4.alloc aj) af a5 a4 (by show Zc f.book+_<=_;omega);unfold ZG at aa;replace aa:=hid aa
   go_wp2_with (go_at_call 309;refine aa.out.mono ?_;rintro r w6 ⟨nv,ay,rfl,ax,ai,ba,a2⟩;replace a2:Hid (∀_,_):=a2;replace ai:Hid (zJ _ _ _ _ _):=ai)
   refine bodyPost_ret (v:=.tuple #[nv,.bool false,.int .i64 0]) (by simp [results,Tryz.results261,go_sem]) rfl ?_;have hz:=ad.size;rw [← ac.out];exact⟨nv,ay,rfl,ad.trans ax,ai.out,ba,λg hg=>⟨by have:=(a2.out g hg).1;omega,(a2.out g hg).2⟩⟩
  ·have am:=m3.lookup qg Tryz.underlying457 (z:=.nilFunc) (by kernel_rfl) e.kind
   rw [zl9 _ _ _ _ hkind] at am;unfold Qw at am a0 a1 az;replace hkind:=hid hkind;have ac:=hR.out;rw [if_neg (by rw [hkind.out];decide),if_pos hkind.out] at ac
   by_cases hck:ye ve e.ver=0
   ·rw [if_neg (by simpa using hck)] at ac
    replace ac:=hid ac;have a3:=hid hck;clear hck;have aa:=zfR B {f with count:=f.count+1} t (ow.cut w) e mv (w4.alloc aj) af (by show ye (vC f.eras).2.1 e.ver=0;rw [hn.out];exact a3.out) hl2;unfold ZG at aa;replace aa:=hid aa
    go_wp2_with (go_at_call 310;refine aa.out.mono ?_;rintro r w6 ⟨rfl,ay,ax,ai⟩;replace ai:Hid (zJ _ _ _ _ _):=ai)
    refine bodyPost_ret (v:=.tuple #[.slice none 0 0,.bool true,.int .i64 0]) (by simp [results,Tryz.results261,go_sem]) rfl ?_;rw [← ac.out];exact⟨_,ay,rfl,ad.trans ax,ai.out,z7 _ _ _,by simp [Value.ownBlock]⟩
   rw [if_pos (by simpa using hck)] at ac
   replace ac:=hid ac;have aa:=zhT B {f with count:=f.count+1} t (ow.cut w) e mv (w4.alloc aj) af (by show ye (vC f.eras).2.1 e.ver≠0;rw [hn.out];exact hck) hl2;unfold ZG at aa;replace aa:=hid aa
   go_wp2_with (go_at_call 310;refine aa.out.mono ?_;rintro r w6 ⟨rfl,aw⟩)
   refine bodyPost_ret (v:=.tuple #[.slice none 0 0,.bool false,.int .i64 0]) (by simp [results,Tryz.results261,go_sem]) rfl ?_;rw [← ac.out];exact⟨_,_,rfl,ad.trans (zt.of_below t _ aw),(zJ.loc B _ t).below af aw,z7 _ _ _,by simp [Value.ownBlock]⟩
  have am:=m3.lookup qg Tryz.underlying457 (z:=.nilFunc) (by kernel_rfl) e.kind
  rw [zma _ _ _ _ hkind] at am;unfold Qw at am a0 a1 az;replace hkind:=hid hkind;have ac:=hR.out;rw [if_neg (by rw [hkind.out];decide),if_neg (by rw [hkind.out];decide)] at ac
  cases hsw:f.sw
  ·rw [if_pos hsw] at ac
   replace ac:=hid ac;have aa:=zdt B {f with count:=f.count+1} t (ow.cut w) (ZG e mv) ⟨_,_,_,_,rfl⟩ hsw (w4.alloc aj) af;unfold ZG at aa;replace aa:=hid aa
   go_wp2_with (go_at_call 311;refine aa.out.mono ?_;rintro r w6 ⟨rfl,aw⟩)
   refine bodyPost_ret (v:=.tuple #[.slice none 0 0,.bool false,.int .i64 0]) (by simp [results,Tryz.results261,go_sem]) rfl ?_;rw [← ac.out];exact⟨_,_,rfl,ad.trans (zt.of_below t _ aw),(zJ.loc B _ t).below af aw,z7 _ _ _,by simp [Value.ownBlock]⟩
  rw [if_neg (by simp [hsw])] at ac
  replace ac:=hid ac;have aa:=zbJ B {f with count:=f.count+1} t ht (ow.cut w) (ZG e mv) ⟨_,_,_,_,rfl⟩ hsw (w4.alloc aj) af hl2;unfold ZG at aa;replace aa:=hid aa
  go_wp2_with (go_at_call 311;refine aa.out.mono ?_;rintro r w6 ⟨rfl,ay,ax,ai⟩;replace ai:Hid (zJ _ _ _ _ _):=ai)
  refine bodyPost_ret (v:=.tuple #[.slice none 0 0,.bool true,.int .i64 0]) (by simp [results,Tryz.results261,go_sem]) rfl ?_;rw [← ac.out];exact⟨_,ay,rfl,ad.trans ax,by have:=ai.out;rw [show vC ({f with count:=f.count+1} :yW).eras=(e.epoch,ve,st)from hn.out] at this;exact this,z7 _ _ _,by simp [Value.ownBlock]⟩
 have t1:((e.epoch:Int) !=(ep:Int))=true:=by simpa using(λh=>hep (by omega))
 rw [if_pos hep] at hR;clear hep;replace hR:=hid hR
 go_enter func261,ntmps261
 go_wp2_with (first
  |(go_at_call 225;refine(ag.out _ ((zJ.loc B f t).below h.out (pbx))).mono ?_;rintro r w1 ⟨rfl,rfl⟩)
  |(go_at_call 307;refine(hr.out _ (hm.out.below (pbx)) hm2).mono ?_;rintro r w2 ⟨rfl,ao⟩;rw [hre]
    have ak:Below w.heap.size w w2:=zh (zi (N2 _ _) _) ao;have kx:Blk w2 w.heap.size #[.int .i64 e.kind,.int .u32 e.epoch,.int .i64 e.ver,mv] 241:=Blk.call (Blk.new rfl) ao;have kB:=hB.call ak;have eB:=kB.cell;have fB:=kB.frozen
    have lB:=kB.lt))
 clear eB fB;obtain⟨W3,ah⟩:∃W3,W3=w2.setCell ⟨B,2,none⟩ (.int .i64 (f.count+1)):=⟨_,rfl⟩;have ap:zJ B {f with count:=f.count+1} t (ow.cut w) W3:=by rw [ah];exact((zJ.loc B f t).cut h.out ak).count _
 have ar:Blk W3 w.heap.size #[.int .i64 e.kind,.int .u32 e.epoch,.int .i64 e.ver,mv] 241:=by rw [ah];exact kx.other (by simp;omega) _
 have al:zt t ow w (ow.cut w) W3:=by rw [ah];exact⟨(Mod.of_below (λk=>Sub t (ow k)) ak).thenSet (p:=⟨B,2,none⟩) (by simp only [o1];exact Sub.rfl' t) _,λk hk=>Own.cut_old hk⟩
 rw [← ah];clear ah kB lB kx;refine zd [O 0,O 1,O 2,E 3,O 4,O 5] none (λw'=>Blk w' w.heap.size #[.int .i64 e.kind,.int .u32 e.epoch,.int .i64 e.ver,mv] 241/\True) ⟨ar.drew,trivial⟩ ?_
 refine Wb ?_
 refine zc rfl (λK hK=>?_)
 go_wp2_with (go_at_call 308;refine(ae.out _ ((zJ.loc B _ t).below ap (Below.drew (N2 _ _)))).mono ?_;rintro r w4 ⟨rfl,an⟩)
 have au:=ar.drew.call an;refine hK.out _ _ (λ_=>⟨au,trivial⟩) ?_;clear hK
 refine Wb ?_
 refine ze ?_;have ad:zt t ow w (ow.cut w) w4:=al.trans ((zt.of_below t (ow.cut w) (Below.drew (N2 _ _))).trans (zt.of_below t (ow.cut w) an));have af:zJ B {f with count:=f.count+1} t (ow.cut w) w4:=(zJ.loc B _ t).below ((zJ.loc B _ t).below ap (Below.drew (N2 _ _))) an;clear ap al;replace af:=hid af;go_wp2;refine bodyPost_ret (v:=.tuple #[.slice none 0 0,.bool false,.int .i64 0]) (by simp [results,Tryz.results261,go_sem]) rfl ?_;rw [← hR.out];exact⟨_,_,rfl,ad,af.out,z7 _ _ _,by simp [Value.ownBlock]⟩
