/- PARTS OF THE PROOF. -/
import Derived.Test.YtofppfoioodblaaGreatDoorDA06
set_option maxRecDepth 8000
set_option maxHeartbeats 4000000
open Go.Proofs.Tryz
namespace Go.Proofs.YtofppfoioodblaaGreatDoor
section
open Go Go.RowKit Go.Shelf Go.Extern.Stop Go.Stop Go.Extern Go.Lib
attribute [local go_sem] Oper.semAt_some zB zo
theorem zlm(a b c a' b' c':Int)(w:World):(binOp .eql 197 (.agg #[.int .u32 a,.int .i64 b,.int .i64 c]) (.agg #[.int .u32 a',.int .i64 b',.int .i64 c'])).run prog w=.ok (.bool ((a==a')&&((b==b')&&(c==c')))) w:=by
 rw [run_eql_struct];simp [go_sem]
 by_cases h1:a=a'<;>by_cases h2:b=b'<;>by_cases h3:c=c'<;>simp [h1,h2,h3]
theorem Xq(n e:ZJ)(l:List ZJ)(v:Int):qu n (e::l) v=if e=n then v else qu n l e.2.1:=rfl
def ze2(l:List ZJ)(n:ZJ)(vb:Nat)(W0:World)(k:Nat)(X:Nat->Prop)(W:World):Prop:=
 Fr (λk=>k=vb) W0 X W/\k<=l.length/\∃v,Blk W vb #[.int .i64 v] 3/\qu n (l.drop k) v=qu n l 0
theorem ze2.stab {l:List ZJ}{n:ZJ}{vb:Nat}{W0:World}{k:Nat}{X X':Nat->Prop}{W W':World}(h1:vb<W0.heap.size)
 (h:ze2 l n vb W0 k X W) (hm:Mod X W W') (hx:∀k,X' k->X k∨(W.heap.size<=k/\k<W'.heap.size)):ze2 l n vb W0 k X' W':=by
 obtain⟨aa,hk,v,kv,ha⟩:=h;exact⟨aa.step hm hx,hk,v,kv.kept (aa.block hm h1),ha⟩
theorem zdM(B:Nat)(f:yB)(t:List Nat)(ow:Own)(ent:Value)(hent:∃a b c d,ent=.agg #[a,b,c,d])(hsw:f.sw=false)(w:World)(h:zF B f t ow w):
 Calls prog 311 #[.pointer (some ⟨B,0,none⟩),ent] w λe w'=>e=.returned (.tuple #[.slice none 0 0,.bool false])/\Below w.heap.size w w':=by
 obtain⟨a,b,c,d,rfl⟩:=hent;obtain⟨ab,bb,ev,hB, -⟩:=h;have e0:=hB.cell;unfold vv at e0;rw [hsw] at e0;have aa:=hB.lt;clear hB;refine zl func311 rfl ?_;simp only [ntmps311,R8,Nat.reduceAdd,Nat.reduceSub];go_wp2;go_step3;go_wp2;rw [Exit.noGoto_ret];exact jp (v:=.tuple #[.slice none 0 0,.bool false]) (by simp [results,Tryz.results311,go_sem]) ⟨rfl,pbx⟩
theorem zb5(B:Nat)(f:yB)(t:List Nat)(ht:t≠ [])(ow:Own)(ent:Value)(hent:∃a b c d,ent=.agg #[a,b,c,d])(hsw:f.sw=true)(w:World)(h:zF B f t ow w)(hl:f.eras.length<=536870912):
 Calls prog 311 #[.pointer (some ⟨B,0,none⟩),ent] w (Yk B (xy f (qu (vo f.eras) f.eras 0) false) t ow w (.tuple #[.slice none 0 0,.bool true])):=by
 obtain⟨a,b,c,d,rfl⟩:=hent;have h0:=h;have am:=zhF B f t ow;obtain⟨bk,bb,bh,hB, -⟩:=h;have e0:=hB.cell;unfold vv at e0;rw [hsw] at e0;have aw:=hB.lt;clear hB;replace h0:=hid h0;replace am:=hid am;refine zl func311 rfl ?_;simp only [ntmps311,R8,Nat.reduceAdd,Nat.reduceSub];go_wp2;go_step3;go_wp2;go_step3
 go_wp2_with (go_at_call 227;refine(am.out _ ((zF.loc B f t).below h0.out (pbx))).mono ?_;rintro e w1 ⟨ev,rfl,rfl,hR,o2⟩;replace o2:Hid (∀_,_):=o2)
 obtain⟨fb,ag⟩:∃fb,fb=w.heap.size:=⟨_,rfl⟩;obtain⟨W0,ai⟩:∃W0,W0=((((w.alloc (.cells #[.pointer (some ⟨B,0,none⟩)] 111)).alloc (.cells #[a,b,c,d] 241)).alloc (.cells #[.int .i64 0] 3)).alloc (.cells #[ev] 217)):=⟨_,rfl⟩;have bf:W0.heap.size=fb+4:=by rw [ai,ag];simp
 have ah:Below w.heap.size w W0:=by rw [ai];exact pbx
 have kf:Blk W0 fb #[.pointer (some ⟨B,0,none⟩)] 111:=by rw [ai,ag];exact bkx
 have kv:Blk W0 (fb+1+1) #[.int .i64 0] 3:=by rw [ai,ag];exact bkx
 have kc:Blk W0 (fb+1+1+1) #[ev] 217:=by rw [ai,ag];exact bkx
 have a6:Row W0 197 3 ev f.eras.length (f.eras.flatMap zX):=by rw [ai];exact hR.below ((N2 _ _).alloc (N0 _) _)
 have bd:B<fb:=by rw [ag];exact aw
 have be:w.heap.size<=fb:=by omega
 rw [← ai,← ag];replace ag:=hid ag;clear ai e0 hR o2;obtain⟨⟨ep,ve,st⟩,hn⟩:∃n,vo f.eras=n:=⟨_,rfl⟩;have ac:=Xo B f t ow;rw [hn] at ac;replace hn:=hid hn;unfold Yh at ac;replace ac:=hid ac
 refine yV (gf:=322) (lb:=#[.pointer (some ⟨fb+1+1+1,0,none⟩)]) rfl (enters_of func322 (by kernel_rfl) rfl)
  (Xi (fb+1+1+1) ev f.eras (by omega)) (λ_=>rfl)
  (λk X W=>ze2 f.eras (ep,ve,st) (fb+1+1) W0 k X W)
  (λc X W=>c=.exit 0/\Fr (λk=>k=fb+1+1) W0 X W/\Blk W (fb+1+1) #[.int .i64 (qu (ep,ve,st) f.eras 0)] 3)
  (λk X X' W W' h hm hx=>h.stab (by omega) hm hx)
  (λc s X X' W W' h hm hx=>⟨h.1,h.2.1.step hm hx,h.2.2.kept (h.2.1.block hm (by omega))⟩)
  (λk X W h=>⟨kc.mod h.1.2 (by omega),(a6.mod h.1.2 (λg hg e=>a6.ne_blk kv (by decide) hg e)).src⟩)
  (λk X W h=>⟨h.1.2.size,λk hk=>(h.1.1 k hk).2⟩)
  ⟨Fr.refl _ _,Nat.zero_le _,0,kv,rfl⟩
  7 197 (λx=> #[.int .u32 x.1,.int .i64 x.2.1,.int .i64 x.2.2]) ?assign ?body ?done ?stop
 case assign=>
  intro l' x W K hK;rw [jf] at hK⊢;unfold Yh at hK⊢
  gi_wp2
  exact hK
 case body=>
  rintro l' k x cb X X1 W1 W h1⟨ad,hk,v,an,ha⟩ ax bj bi ba kx a9 _;obtain⟨xe,xv,xs⟩:=x;have ak:=kf.mod ad.2 (by omega);have aj:Below w.heap.size w W:=ah.trans (ad.below (by have:=ah.size;omega) (λk hk=>by omega));have hF:zF B f t ow W:=(zF.loc B f t).below h0.out aj;have a5:=zlm xe xv xs ep ve st;obtain⟨q,ap⟩:∃q:Bool,((xe:Int)==ep &&(xv==ve && xs==st))=q:=⟨_,rfl⟩;rw [ap] at a5;replace ap:=hid ap
  have a3:f.eras.drop k=(xe,xv,xs)::f.eras.drop (k+1):=by
   have aw:=(N6.1 ax);rw [List.drop_eq_getElem_cons aw.1,aw.2]
  rw [a3] at ha;have bc:=(N6.1 ax).1;replace hF:=hid hF;replace ha:=hid ha;replace a3:=hid a3;replace ax:=hid ax;rw [jf];unfold Yh;simp only at kx
  gi_wp2
  refine jI [O 0,O 1,E 2,O 3] none (λw'=>Blk w' cb #[.int .u32 xe,.int .i64 xv,.int .i64 xs] 197/\Blk w' fb #[.pointer (some ⟨B,0,none⟩)] 111/\True) (by kernel_rfl) (by kernel_rfl) ⟨kx.drew,ak.drew,trivial⟩ ?_
  refine Wb ?_
  refine zc rfl (λK hK=>?_)
  go_wp2_with (go_at_call 308;refine(ac.out _ ((zF.loc B f t).below hF.out (Below.drew (N2 _ _))) (by omega)).mono ?_;rintro e w1 ⟨rfl,a1⟩)
  have au:=kx.drew.call a1;have a7:=ak.drew.call a1;have ar:=an.drew.call a1;refine hK.out _ _ (λ_=>⟨au,a7,trivial⟩) ?_;clear hK K
  refine Wb ?_
  refine zg ?_;have ay:Below W.heap.size W w1:=pbx;clear a5 au a7 ak
  cases q
  ·have hq:¬(xe,xv,xs)=(ep,ve,st):=λh=>by
    have:=ap.out;simp only [Prod.mk.injEq] at h;obtain⟨rfl,rfl,rfl⟩:=h;simp at this
   have af:qu (ep,ve,st) (f.eras.drop (k+1)) xv=qu (ep,ve,st) f.eras 0:=by
    rw [← ha.out,Xq,if_neg hq]
   have au:=kx.call ay;have ex:=au.cell;have a4:=ar.cell;have bg:=ar.frozen;have bl:=ar.lt;clear hq;replace af:=hid af
   gi_wp2
   have hm:Mod (λk=>k=fb+1+1) W (w1.setCell ⟨fb+1+1,0,none⟩ (.int .i64 xv)):=(Mod.of_below (λk=>k=fb+1+1) ay).thenSet (p:=⟨fb+1+1,0,none⟩) rfl _;exact⟨⟨ad.mod hm (λk _ h=>h),by omega,xv,ar.set _,af.out⟩,jm.of_mod hm (λk _ hX he=>by have:=ad.1 k hX;omega)⟩
  have hq:(xe,xv,xs)=(ep,ve,st):=by
   have:=ap.out;simp only [Bool.and_eq_true,beq_iff_eq] at this;obtain⟨h1,h2,h3⟩:=this;simp only [Prod.mk.injEq];exact⟨by omega,h2,h3⟩
  have af:v=qu (ep,ve,st) f.eras 0:=by rw [← ha.out,Xq,if_pos hq]
  clear hq;replace af:=hid af
  gi_wp2
  exact⟨⟨rfl,ad.mod (Mod.of_below (λ_=>False) ay) (λ_ _ h=>h.elim),by rw [← af.out];exact ar⟩,jm.of_mod (Mod.of_below (λ_=>False) ay) (λ_ _ _ h=>h)⟩
 case done=>
  rintro D k X W hD a8 a2⟨ad,hk,v,an,ha⟩ ae;obtain rfl:k=f.eras.length:=a2;rw [List.drop_length] at ha;have af:v=qu (ep,ve,st) f.eras 0:=ha;rw [af] at an;have aj:Below w.heap.size w W:=ah.trans (ad.below (by have:=ah.size;omega) (λk hk=>by omega));have ak:=kf.mod ad.2 (by omega);have ef:=ak.cell;have a4:=an.cell;have ab:=Xp B f t (ow.cut w) (qu (ep,ve,st) f.eras 0) false W ((zF.loc B f t).cut h0.out aj) hl;have a0:=(N5.1 ae).1;have ao:w.heap.size<=D:=by have:=ah.size;omega
  replace ab:=hid ab
  go_wp2_with (go_at_call 336;refine ab.out.mono ?_;rintro e w2 ⟨rfl,az,aq,al⟩;replace al:Hid (zF _ _ _ _ _):=al)
  rw [Exit.noGoto_ret];have aa:=aq.free ht ao a0
  exact jl (D:=D) (v:=.tuple #[.slice none 0 0,.bool true]) (aa.1.trans ae) (by simp [results,Tryz.results311,go_sem])
   ⟨rfl,az,(zp.wrap aj aq).putNew D _ ao,by rw [hn.out];exact(zF.loc B _ t).put ht al.out aa.2 _⟩
 case stop=>
  rintro D c X W hD a8⟨rfl,ad,an⟩ ae;have aj:Below w.heap.size w W:=ah.trans (ad.below (by have:=ah.size;omega) (λk hk=>by omega));have ak:=kf.mod ad.2 (by omega);have ef:=ak.cell;have a4:=an.cell;have ab:=Xp B f t (ow.cut w) (qu (ep,ve,st) f.eras 0) false W ((zF.loc B f t).cut h0.out aj) hl;have a0:=(N5.1 ae).1;have ao:w.heap.size<=D:=by have:=ah.size;omega
  replace ab:=hid ab
  go_wp2_with (go_at_call 336;refine ab.out.mono ?_;rintro e w2 ⟨rfl,az,aq,al⟩;replace al:Hid (zF _ _ _ _ _):=al)
  rw [Exit.noGoto_ret];have aa:=aq.free ht ao a0
  exact jl (D:=D) (v:=.tuple #[.slice none 0 0,.bool true]) (aa.1.trans ae) (by simp [results,Tryz.results311,go_sem])
   ⟨rfl,az,(zp.wrap aj aq).putNew D _ ao,by rw [hn.out];exact(zF.loc B _ t).put ht al.out aa.2 _⟩
end
section
open Go
theorem VB:∀(n:Nat)(ws:List (MId×zx)) (x:zx),zdy ws->(zT n ws x).2.length+(zT n ws x).1.length<=(del x.1 ws).length+1
 |0,ws,x,_=>by simp [zT];omega
 |n+1,ws,x,hw=>by
  unfold zT
  cases hl:zH (x.1.1,(x.1.2+1)% 4294967296) (del x.1 ws)with
  |none=>simp;omega
  |some y=>
   have h1:=VB n (del x.1 ws) y (hw.del _);have hy:y.1=(x.1.1,(x.1.2+1)% 4294967296):=((hw.del x.1) _ (xQ hl)).1;have hlen:=zaQ hl;rw [← hy] at hlen;simp;omega
theorem zhI {V:Type}(k:MId)(v:V):∀l:List (MId×V),(put k v l).length<=l.length+1
 | []=>by simp [put]
 |(k',v')::l=>by
  have ih:=zhI k v l;unfold put
  split
  ·simp
  simp;exact ih
def Zf(b:vF):Nat:=b.log.length+b.ws.length
theorem zjQ(b:vF)(m:zx):(xF b m).1.log=b.log++(xF b m).2.1:=by
 unfold xF
 split
 ·simp
 split
 ·split<;>simp
 simp
theorem zmf {b:vF}(hok:v8 b)(m:zx):Zf (xF b m).1<=Zf b+1:=by
 unfold xF Zf
 split
 ·simp
 split
 ·split
  ·simp
  have:=zhI m.1 m b.ws;simp;omega
 have h1:=VB b.ws.length b.ws m hok.keys
 have h2:=Y8 m.1 b.ws;simp;omega
theorem zjR {ws:List (MId×zx)}(h:zdy ws){m:zx}(hm:zz m=true):zdy (put m.1 m ws):=by
 induction ws with
 |nil=>intro p hp;simp [put] at hp;subst hp;exact⟨rfl,hm⟩
 |cons q l ih=>
  obtain⟨k,v⟩:=q;intro p hp;unfold put at hp
  split at hp
  ·rcases List.mem_cons.1 hp with rfl|h1
   ·exact⟨rfl,hm⟩
   exact h p (U7 _ h1)
  rcases List.mem_cons.1 hp with rfl|h1
  ·exact h _ (List.mem_cons_self ..)
  exact ih (λq hq=>h q (U7 _ hq)) p h1
theorem zhJ {b:vF}(hok:v8 b)(m:zx):v8 (xF b m).1:=by
 unfold xF
 split
 ·exact hok
 rename_i hr
 have aa:zz m=true:=by simpa using hr
 split
 ·split
  ·exact hok
  exact⟨hok.sixteen,hok.most,zjR hok.keys aa⟩
 exact hok.row aa _
theorem VC(b:vF):∀(l:List zx)(m:zx),zU b (l++ [m])=((xF (zU b l).1 m).1,(zU b l).2++(xF (zU b l).1 m).2.1)
 | [],m=>by simp [zU]
 |x::l,m=>by
  have ih:=VC (xF b x).1 l m;simp [zU,ih]
theorem qP {b:vF}(hok:v8 b):∀(l:List zx),v8 (zU b l).1/\Zf (zU b l).1<=Zf b+l.length/\(zU b l).1.log=b.log++(zU b l).2
 | []=>⟨hok,N0 _,by simp [zU]⟩
 |m::l=>by
  have h1:=qP (zhJ hok m) l;have h2:=zmf hok m;have h3:=zjQ b m;refine⟨h1.1,?_,?_⟩
  ·have:=h1.2.1;simp only [zU,List.length_cons];omega
  simp only [zU];rw [h1.2.2,h3,List.append_assoc]
theorem Xr {b:vF}(hok:v8 b)(l:List zx):(zU b l).2.length<=Zf b+l.length:=by
 have h:=qP hok l;have h2:=congrArg List.length h.2.2;have h3:=h.2.1;rw [N1] at h2;unfold Zf at h3⊢;omega
theorem zfP:v8 qf:=⟨rfl,by simp [qf],by simp [qf]⟩
end
open Go Go.RowKit Go.Shelf Go.Extern.Stop Go.Stop Go.Extern
attribute [local go_sem] Oper.semAt_some zB zo
theorem zp.grownNew {t:List Nat}{ow o1:Own}{W W1 W2:World}{row:Option Nat}(h:zp t ow W o1 W1)(hg:W1.grownBy W2 row)(hr:∀k,row=some k->W.heap.size<=k):zp t ow W o1 W2:=
 ⟨h.mod.trans (Mod.grown (X:=λk=>row=some k) hg (λ_ h=>h)) (λ_ _ e=>e) (λk hk e=>by have:=hr k e;omega),h.agree⟩
theorem zp.cut {t:List Nat}{ow o1:Own}{W W1:World}(h:zp t ow W o1 W1):zp t ow W (o1.cut W1) W1:=⟨h.mod,λk hk=>(Own.cut_old (Nat.lt_of_lt_of_le hk h.size)).trans (h.agree k hk)⟩
theorem yC.cutHere {t:List Nat}{A:Own->World->Prop}(hA:yC t A){ow:Own}{w:World}(h:A ow w):A (ow.cut w) w:=hA.cut h (N2 _ _)
theorem zp.free2 {t:List Nat}{ow ow2:Own}{w W w2:World}(h:zp t (ow.cut w) W ow2 w2){k:Nat}(hk:k<w.heap.size)(ho:ow k=[])(hs:w.heap.size<=W.heap.size):ow2 k=[]:=
 (h.agree k (Nat.lt_of_lt_of_le hk hs)).trans ((Own.cut_old hk).trans ho)
def zhK(bb:Nat)(t:List Nat)(ow:Own)(w:World)(R:vF×List zx)(e:Ending)(w':World):Prop:=
 ∃v ow',e=.returned v/\zp t ow w ow' w'/\jP bb R.1 t ow' w'/\Row w' 78 3 v R.2.length (R.2.flatMap zh)/\(∀g,v.ownBlock=some g->w.heap.size<=g/\ow' g=[])
def zln(bb:Nat)(t:List Nat)(ow:Own)(w:World)(b:vF)(l:List zx)(k:Nat)(v:Value)(W:World):Prop:=
 k<=l.length/\∃ow1,zp t ow w ow1 W/\jP bb (zU b (l.take k)).1 t ow1 W/\Row W 78 3 v (zU b (l.take k)).2.length ((zU b (l.take k)).2.flatMap zh)/\(∀g,v.ownBlock=some g->w.heap.size<=g/\ow1 g=[])
theorem zdN(B bb:Nat)(b:vF)(t:List Nat)(ht:t≠ [])(ow:Own)(mv:Value)(l:List zx)(w:World)(hB:w.cell? ⟨B,0,none⟩=some (.pointer (some ⟨bb,0,none⟩)))(hBt:¬Sub t (ow B))
 (hb:jP bb b t ow w) (hm:qO w mv l) (hmt:∀a l c,mv=.slice (some a) l c->¬Sub t (ow a.block)) (hl:Zf b+l.length<=536870912):
 Calls prog 335 #[.pointer (some ⟨B,0,none⟩),mv] w (zhK bb t ow w (zU b l)):=by
 have au:=hb.1;obtain⟨a,c,rfl⟩:=hm.shape;have a6:=jx hB
 go_enter func335,ntmps335
 go_wp2
 go_loopw [5,12] (λp5 p12 wr=>∃k:Nat,p12=.int .i64 k/\zln bb t ow w b l k p5 wr) (λ_ p12 _=>l.length - (intOf p12).toNat)
 case atStart=>exact⟨0,rfl,Nat.zero_le _,ow,zp.refl _ _ _,hb,jc _ _ _,by simp [Value.ownBlock]⟩
 case round=>
  obtain⟨k,rfl,hk,a2,aq,ae,aj,af⟩:=hrel
  by_cases hlt:k<l.length
  ·obtain⟨x,hx⟩:∃x,l[k]?=some x:=⟨_,N3 hlt⟩
   rcases hm.2 with⟨h,h'⟩|⟨mb,off,cap,h,hc, -⟩
   ·omega
   cases h
   have a8:=hm.step aq hmt
   have ab:∀j,j<3->wr.cell? ⟨mb,off+(k*3+j),none⟩=(zh x)[j]?:=λj hj=>by
    have h1:=Jf l k x hx j hj
    rcases a8.2 with⟨h, -⟩|⟨mb',off',cap',h, -,hr⟩
    ·cases h
    cases h
    cases hu:(zh x)[j]? with
    |none=>simp [zh] at hu;omega
    |some u=>exact hr _ u (h1.trans hu)
   have c0:wr.cell? ⟨mb,off+k*3,none⟩=(zh x)[0]?:=ab 0 (by omega);have c1:wr.cell? ⟨mb,off+k*3+1,none⟩=(zh x)[1]?:=ab 1 (by omega);have c2:wr.cell? ⟨mb,off+k*3+2,none⟩=(zh x)[2]?:=ab 2 (by omega);have ay:l.take (k+1)=l.take k++ [x]:=by rw [List.take_add_one,hx];rfl
   have ah:=VC b (l.take k) x;rw [← ay] at ah;have am:=qP au (l.take k);have ap:=Xr au (l.take k);rw [N7] at am ap;obtain⟨⟨i,cc⟩,d⟩:=x;simp only [zh,List.getElem?_cons_zero,List.getElem?_cons_succ] at c0 c1 c2;have eB:wr.cell? ⟨B,0,none⟩=some (.pointer (some ⟨bb,0,none⟩)):=(aq.cell a6 hBt).trans hB;have an:=jx eB;have az:¬Sub t (a2 B):=by rw [aq.agree B a6];exact hBt
   clear ab a8;replace ah:=hid ah;replace ay:=hid ay;replace hx:=hid hx;replace af:=hid af;replace ae:=hid ae;replace hmt:=hid hmt;go_wp2;clear c0 c1 c2;obtain⟨W1,ag⟩:∃W1,W1=(wr.alloc (.cells #[.int .i64 i,.int .u32 cc,.string (bs d)] 78)).drew:=⟨_,rfl⟩;have ad:Below wr.heap.size wr W1:=by rw [ag];exact pbx
   have kx:Blk W1 wr.heap.size #[.int .i64 i,.int .u32 cc,.string (bs d)] 78:=by rw [ag];exact bkx
   have a1:=(ad.cell an).trans eB;have bc:W1.heap.size=wr.heap.size+1:=by rw [ag];simp
   refine zd [O 0,O 1,O 2,O 3,O 4,E 5,O 6,O 7,O 8,O 9,O 10] none (λw'=>Blk w' wr.heap.size #[.int .i64 i,.int .u32 cc,.string (bs d)] 78/\w'.cell? ⟨B,0,none⟩=some (.pointer (some ⟨bb,0,none⟩))/\True) (by kernel_rfl) (by kernel_rfl) (by rw [← ag];exact⟨kx,a1,trivial⟩) ?_;rw [← ag];clear ag eB
   refine Wn ?_
   refine zc rfl (λK hK=>?_);have aa:=zjN bb (zU b (l.take k)).1 t ht (a2.cut wr) ((i,cc),d) W1 ((jP.loc bb _ t).cut ae.out ad) (by have:=am.2.1;unfold Zf at this hl;omega);unfold vO at aa;replace aa:=hid aa
   go_wp2_with (go_at_call 355;refine aa.out.mono ?_;rintro e w2 ⟨nv,a7,rfl,ao,ar,bd,a4⟩;replace a4:Hid (∀_,_):=a4;replace ar:Hid (jP _ _ _ _ _):=ar)
   have ba:=ao.free ht (N0 _) (by omega);refine hK.out _ _ (λ_=>⟨kx.kept ba.1,(ao.cell (p:=⟨B,0,none⟩) (by show B<_;omega) (by rw [Own.cut_old an];exact az)).trans a1,trivial⟩) ?_;clear hK K
   refine Wn ?_
   refine zg ?_;have a3:=Hid.out af;have ak:=(aj.below ad).step ao (λg hg=>by rw [Own.cut_old (aj.lt hg),(a3 g hg).2];exact zj ht)
   have ac:(zU b (l.take k)).2.length+(xF (zU b (l.take k)).1 ((i,cc),d)).2.1.length<=1073741824:=by
    have h1:=Xr au (l.take (k+1));rw [ah.out] at h1;simp only [N1,N7] at h1;omega
   clear a3 a1 kx;replace ac:=hid ac
   go_wp2_with (at_builtin
                obtain⟨v',W3,ai,ax,aw,al⟩:=zM zdI ak bd.src (jA _) ac.out 42;refine zv rfl _ _ _ rfl rfl rfl ai ?_
                clear ai)
   go_roundw
   case rel=>
    have a9:zp t ow w a7 w2:=aq.trans (zp.wrap ad ao);have a0:=af.out;have a5:∀g,_:=λg hg=>(ao.free2 (aj.lt (g:=g) hg) (a0 g hg).2 ad.size)
    refine⟨k+1,by go_num,by omega,a7.cut w2,(zp.cut a9).grownNew aw (λg hg=>(a0 g hg).1),?_,?_,?_⟩
    ·rw [ah.out]
     exact(jP.loc bb _ t) _ _ _ _ ((jP.loc bb _ t).cutHere ar.out) aw.size (λg hg hs=>⟨rfl,aw.block g hg (λe=>by
      rw [Own.cut_old hg,a5 g e.symm] at hs;exact zj ht hs)⟩)
    ·rw [ah.out]
     simp only [N1,U5];exact ax
    intro g hg
    rw [hg] at al
    rcases al with h|h
    ·exact⟨(a0 g h.symm).1,by rw [Own.cut_old (ak.lt h.symm)];exact a5 g h.symm⟩
    simp at h
    exact⟨by rw [h];exact a9.size,Own.cut_new (by omega)⟩
   case measure=>simp [intOf];omega
  obtain rfl:k=l.length:=by omega
  rw [List.take_length] at ae aj;replace af:=hid af;replace ae:=hid ae;clear hm hmt hB;go_wp2;go_ret
  exact⟨_,a2,rfl,aq,ae.out,aj,af.out⟩
def zhL(B:Nat)(t:List Nat)(ow:Own)(w:World)(f:yB)(l:List zx)(b:Bool)(e:Ending)(w':World):Prop:=
 ∃v ow',e=.returned (.tuple #[v,.bool b])/\zp t ow w ow' w'/\zF B f t ow' w'/\Row w' 78 3 v l.length (l.flatMap zh)/\(∀g,v.ownBlock=some g->w.heap.size<=g/\ow' g=[])
theorem Yk.sub {B:Nat}{f:yB}{t:List Nat}{ow:Own}{w:World}{b:Bool}{e:Ending}{w':World}(h:Yk B f t ow w (.tuple #[.slice none 0 0,.bool b]) e w'):zhL B t ow w f [] b e w':=by
 obtain⟨rfl,ow',h1,h2⟩:=h;exact⟨_,ow',rfl,h1,h2,jc _ _ _,by simp [Value.ownBlock]⟩
theorem zb6 {B:Nat}{f:yB}{t:List Nat}{ow:Own}{w:World} :zF B f t ow w->ow B=t:=λ⟨_,_,_,_,_,_,o1,_⟩=>o1
theorem zhM(B:Nat)(f:yB)(t:List Nat)(ow:Own)(e:jz)(mv:Value)(w:World)(h:zF B f t ow w)
 (hm:qO w mv e.msgs) (hmt:∀a l c,mv=.slice (some a) l c->¬Sub t (ow a.block)) (hl:Zf f.book+e.msgs.length<=536870912):
 Calls prog 309 #[.pointer (some ⟨B,0,none⟩),ZS e mv] w (zhL B t ow w {f with book:=(zU f.book e.msgs).1} (zU f.book e.msgs).2 false):=by
 obtain⟨am,bb,ev,hB,ak,hR,o1,o2⟩:=h;obtain⟨W1,aa⟩:∃W1,W1=(w.alloc (.cells #[.int .i64 e.kind,.int .u32 e.epoch,.int .i64 e.ver,mv] 241)).drew:=⟨_,rfl⟩;have ab:Below w.heap.size w W1:=by rw [aa];exact pbx
 have kx:Blk W1 w.heap.size #[.int .i64 e.kind,.int .u32 e.epoch,.int .i64 e.ver,mv] 241:=by rw [aa];exact bkx
 have ao:W1.heap.size=w.heap.size+1:=by rw [aa];simp
 have af:=hB.lt;unfold vv at hB;have aj:=hB.call ab;have ah:t++ [0] ≠ []:=by simp
 have hd:=zdN B bb f.book (t++ [0]) ah (ow.cut w) mv e.msgs W1 (aj.cell 0) (by rw [Own.cut_old af,o1];exact zO t 0) ((jP.loc bb f.book (t++ [0])).cut ak ab) (hm.below ab)
  (λa l c h hs=>by
   rcases Nat.lt_or_ge a.block w.heap.size with h1|h1
   ·rw [Own.cut_old h1] at hs;exact hmt a l c h ((Sub.child t 0).trans hs)
   rw [Own.cut_new h1] at hs;exact zj ah hs) hl
 replace hd:=hid hd;replace hmt:=hid hmt;replace o2:=hid o2;replace hm:=hid hm;replace ak:=hid ak;unfold ZS
 go_enter func309,ntmps309
 go_wp2;refine zd [O 0,O 1,O 2,O 3,O 4,E 5,O 6,O 7] none (λw'=>Blk w' w.heap.size #[.int .i64 e.kind,.int .u32 e.epoch,.int .i64 e.ver,mv] 241/\True) (by kernel_rfl) (by kernel_rfl) (by rw [← aa];exact⟨kx,trivial⟩) ?_;rw [← aa];clear aa
 refine Wd ?_
 refine zc rfl (λK hK=>?_)
 go_wp2_with (go_at_call 335;refine hd.out.mono ?_;rintro r w2 ⟨nv,an,rfl,ad,ag,al,ae⟩;replace ae:Hid (∀_,_):=ae;replace ag:Hid (jP _ _ _ _ _):=ag)
 have ac:=ad.free ah (N0 _) (by omega);refine hK.out _ _ (λ_=>⟨kx.kept ac.1,trivial⟩) ?_;clear hK K
 refine Wd ?_
 refine zg ?_;go_wp2;refine bodyPost_ret (v:=.tuple #[nv,.bool false]) (by simp [results,Tryz.results309,go_sem]) rfl ?_;have ai:=(zp.wrap ab ad).mono (Sub.child t 0);refine⟨nv,an,rfl,ai,⟨am,bb,ev,?_,ag.out,?_,?_,?_⟩,al,λg hg=>⟨by have:=(ae.out g hg).1;omega,(ae.out g hg).2⟩⟩
 ·exact aj.kept (ad.block aj.lt (by rw [Own.cut_old af,o1];exact zO t 0))
 ·exact(hR.below ab).step ad (λg hg=>by rw [Own.cut_old (hR.lt hg),o2.out g hg];exact zO t 0)
 ·rw [ai.agree B af,o1]
 intro g hg;rw [ai.agree g (hR.lt hg),o2.out g hg]
theorem zhN(B:Nat)(f:yB)(t:List Nat)(ow:Own)(e:jz)(mv:Value)(w:World)(h:zF B f t ow w)(hc:j4 (vo f.eras).2.1 e.ver≠0)(hl:f.eras.length<=536870912):
 Calls prog 310 #[.pointer (some ⟨B,0,none⟩),ZS e mv] w λr w'=>r=.returned (.tuple #[.slice none 0 0,.bool false])/\Below w.heap.size w w':=by
 have aa:=Xo B f t ow;obtain⟨⟨ep,ve,st⟩,hn⟩:∃n,vo f.eras=n:=⟨_,rfl⟩;rw [hn] at aa hc;unfold Yh at aa;simp only at hc;obtain⟨W1,ab⟩:∃W1,W1=(w.alloc (.cells #[.int .i64 e.kind,.int .u32 e.epoch,.int .i64 e.ver,mv] 241)).drew:=⟨_,rfl⟩;have ae:Below w.heap.size w W1:=by rw [ab];exact pbx
 have kx:Blk W1 w.heap.size #[.int .i64 e.kind,.int .u32 e.epoch,.int .i64 e.ver,mv] 241:=by rw [ab];exact bkx
 have hF:Hid (zF B f t ow W1):=(zF.loc B f t).below h ae;have ag:=zhE ep ve st;have t1:(j4 ve e.ver !=0)=true:=by simpa using hc
 clear hc h;replace aa:=hid aa;replace hn:=hid hn;unfold ZS
 go_enter func310,ntmps310
 go_wp2;refine zd [O 0,O 3,O 4,E 1,O 2,E 5,O 6] none (λw'=>Blk w' w.heap.size #[.int .i64 e.kind,.int .u32 e.epoch,.int .i64 e.ver,mv] 241/\True) (by kernel_rfl) (by kernel_rfl) (by rw [← ab];exact⟨kx,trivial⟩) ?_;rw [← ab];clear ab
 refine Wd ?_
 refine zc rfl (λK hK=>?_)
 go_wp2_with (go_at_call 308;refine(aa.out _ hF.out (by omega)).mono ?_;rintro r w2 ⟨rfl,ad⟩)
 have k2:=kx.call ad;refine hK.out _ _ (λ_=>⟨k2,trivial⟩) ?_;clear hK K
 refine Wd ?_
 refine zc rfl (λK hK=>?_)
 go_wp2_with (go_at_call 110;refine(qc _ _ _).mono ?_;rintro r w3 ⟨rfl,ac⟩)
 have k3:=k2.call ac;refine hK.out _ _ (λ_=>⟨k3,trivial⟩) ?_;clear hK K
 refine Wd ?_
 refine zg ?_;have af:Below w.heap.size w w3:=ze (ze ae ad) ac;go_wp2;go_ret2
 exact⟨rfl,af⟩
theorem zfQ(B:Nat)(f:yB)(t:List Nat)(ow:Own)(e:jz)(mv:Value)(w:World)(h:zF B f t ow w)(hc:j4 (vo f.eras).2.1 e.ver=0)(hl:f.eras.length<=536870912):
 Calls prog 310 #[.pointer (some ⟨B,0,none⟩),ZS e mv] w (Yk B (xy f e.ver true) t ow w (.tuple #[.slice none 0 0,.bool true])):=by
 have aa:=Xo B f t ow;obtain⟨⟨ep,ve,st⟩,hn⟩:∃n,vo f.eras=n:=⟨_,rfl⟩;rw [hn] at aa hc;unfold Yh at aa;simp only at hc;obtain⟨W1,ac⟩:∃W1,W1=(w.alloc (.cells #[.int .i64 e.kind,.int .u32 e.epoch,.int .i64 e.ver,mv] 241)).drew:=⟨_,rfl⟩;have ah:Below w.heap.size w W1:=by rw [ac];exact pbx
 have kx:Blk W1 w.heap.size #[.int .i64 e.kind,.int .u32 e.epoch,.int .i64 e.ver,mv] 241:=by rw [ac];exact bkx
 have hF:Hid (zF B f t ow W1):=(zF.loc B f t).below h ah;have ak:=zhE ep ve st;have t1:(j4 ve e.ver !=0)=false:=by simpa using hc
 clear hc;replace aa:=hid aa;replace hn:=hid hn;replace h:=hid h;unfold ZS
 go_enter func310,ntmps310
 go_wp2;refine zd [O 0,O 3,O 4,E 1,O 2,E 5,O 6] none (λw'=>Blk w' w.heap.size #[.int .i64 e.kind,.int .u32 e.epoch,.int .i64 e.ver,mv] 241/\True) (by kernel_rfl) (by kernel_rfl) (by rw [← ac];exact⟨kx,trivial⟩) ?_;rw [← ac];clear ac
 refine Wd ?_
 refine zc rfl (λK hK=>?_)
 go_wp2_with (go_at_call 308;refine(aa.out _ hF.out (by omega)).mono ?_;rintro r w2 ⟨rfl,ag⟩)
 have k2:=kx.call ag;refine hK.out _ _ (λ_=>⟨k2,trivial⟩) ?_;clear hK K
 refine Wd ?_
 refine zc rfl (λK hK=>?_)
 go_wp2_with (go_at_call 110;refine(qc _ _ _).mono ?_;rintro r w3 ⟨rfl,ae⟩)
 have k3:=k2.call ae;refine hK.out _ _ (λ_=>⟨k3,trivial⟩) ?_;clear hK K
 refine Wd ?_
 refine zg ?_;have af:Below w.heap.size w w3:=ze (ze ah ag) ae;have e3:=k3.cell;have ab:=Xp B f t (ow.cut w) e.ver true w3 ((zF.loc B f t).cut h.out af) hl;replace ab:=hid ab
 go_wp2_with (go_at_call 336;refine ab.out.mono ?_;rintro r w4 ⟨rfl,aj,ai,ad⟩;replace ad:Hid (zF _ _ _ _ _):=ad)
 refine bodyPost_ret (v:=.tuple #[.slice none 0 0,.bool true]) (by simp [results,Tryz.results310,go_sem]) rfl ?_;exact⟨rfl,aj,zp.wrap af ai,ad.out⟩
theorem zF.count {B:Nat}{f:yB}{t:List Nat}{ow:Own}{w:World}(h:zF B f t ow w)(c:Int):zF B {f with count:=c} t ow (w.setCell ⟨B,2,none⟩ (.int .i64 c)):=by
 obtain⟨ab,bb,ev,hB,aa,hR,o1,o2⟩:=h;refine⟨ab,bb,ev,hB.set _,?_,hR.kept (λg hg=>N4 _ _ _ _ (show g≠B from hR.ne_blk hB (by decide) hg)),o1,o2⟩;exact(jP.loc bb f.book (t++ [0])) _ _ _ _ aa (by simp) (λk hk hs=>⟨rfl,N4 _ _ _ _ (show k≠B from λe=>by subst e;rw [o1] at hs;exact zO t 0 hs)⟩)
def Qz(n:Int):Value:=.int .i64 n
theorem zlo(n:Nat)(b:Bool)(x:Int)(w:World):(Instr.checkKey b (n+1) 3 (.int .i64 x)).run prog w=.ok () w:=by
 simp [Instr.checkKey,go_sem]
theorem qw:qe prog 3 Qz where
 eq:=λk k' w=>by
  have h:(Op.equal 3 (Qz k) (Qz k')).run prog w=(Op.equalIn 10000 3 (.int .i64 k) (.int .i64 k')).run prog w:=rfl;rw [h];simp [go_sem]
  by_cases h1:k=k'<;>simp [h1]
 chk:=λb k w=>zlo 9999 b k w
 bits:=λk=>by simp [Qz,Instr.sameBits]
 now:=⟨_,Tryz.underlying3,λk k'=>by
  by_cases h:k=k'
  ·right;subst h;simp [Qz,Instr.sameNow]
  right;simp [Qz,Instr.sameNow,h]⟩
theorem zC(w:World)(o o':Obj):(w.alloc o).putObj w.heap.size o'=w.alloc o':=by
 have h:(w.heap.push o).setIfInBounds w.heap.size o'=w.heap.push o':=by
  apply Array.ext_getElem?
  intro i;simp only [Array.getElem?_setIfInBounds,Array.getElem?_push,Array.size_push]
  by_cases hi:w.heap.size=i
  ·subst hi;simp
  have aa:¬i=w.heap.size:=λe=>hi e.symm
  simp [hi,aa]
 exact congrArg (λhp=>({heap:=hp,tape:=w.tape,drawn:=w.drawn,os:=w.os,output:=w.output} :World)) h
theorem zmg(a b c:Value)(k:Int)(h:k=1):(zH k (put (3:Int) c (put 2 b (put 1 a [])))).getD Value.nilFunc=a:=by subst h;rfl
theorem zmh(a b c:Value)(k:Int)(h:k=2):(zH k (put (3:Int) c (put 2 b (put 1 a [])))).getD Value.nilFunc=b:=by subst h;rfl
theorem zmi(a b c:Value)(k:Int)(h:k=3):(zH k (put (3:Int) c (put 2 b (put 1 a [])))).getD Value.nilFunc=c:=by subst h;rfl
theorem zaT {e:jz}(h:JB e=true):e.kind=1∨e.kind=2∨e.kind=3:=by
 rcases Decidable.em (qg e=false)with h1|h1
 ·simp [JB,ju,h1] at h
 unfold qg at h1
 by_cases a:e.kind=1
 ·exact .inl a
 by_cases b:e.kind=2
 ·exact .inr (.inl b)
 by_cases c:e.kind=3
 ·exact .inr (.inr c)
 simp [a,b,c] at h1
theorem Yl {e:jz}(h:JB e=true):e.msgs.length<=64:=by
 rcases Nat.lt_or_ge 64 e.msgs.length with h1|h1
 ·exfalso
  have:(yj e.msgs).2=101:=by unfold yj;rw [if_pos h1]
  unfold JB ju at h
  split at h
  ·simp at h
  rw [this] at h;simp at h
 exact h1
def zhO(B:Nat)(t:List Nat)(ow:Own)(w:World)(R:yB×List zx×Bool×Int)(e:Ending)(w':World):Prop:=
 ∃v ow',e=.returned (.tuple #[v,.bool R.2.2.1,.int .i64 R.2.2.2])/\zp t ow w ow' w'/\zF B R.1 t ow' w'/\Row w' 78 3 v R.2.1.length (R.2.1.flatMap zh)/\(∀g,v.ownBlock=some g->w.heap.size<=g/\ow' g=[])
theorem zhP(B:Nat)(f:yB)(t:List Nat)(ht:t≠ [])(ow:Own)(e:jz)(mv:Value)(w:World)(h:zF B f t ow w)
 (hm:qO w mv e.msgs) (hmt:∀a l c,mv=.slice (some a) l c->¬Sub t (ow a.block)) (hl:Zf f.book+64<=536870912) (hl2:f.eras.length<=536870912) (hm2:e.msgs.length<=1073741824) (hct:0<=f.count/\f.count<=1073741824):
 Calls prog 261 #[.pointer (some ⟨B,0,none⟩),ZS e mv] w (zhO B t ow w (jX f e)):=by
 have hr:=zfL e mv;unfold ZS at hr⊢;replace hr:=hid hr;replace hmt:=hid hmt;replace hm:=hid hm;obtain⟨R,hR⟩:∃R,jX f e=R:=⟨_,rfl⟩;rw [hR];unfold jX at hR;have ag:=ze0 B f t ow;replace ag:=hid ag
 cases hre:JB e
 ·rw [if_pos hre] at hR
  subst hR;replace h:=hid h
  go_enter func261,ntmps261
  go_wp2_with (first
   |(go_at_call 225;refine(ag.out _ ((zF.loc B f t).below h.out (pbx))).mono ?_;rintro r w1 ⟨rfl,rfl⟩)
   |(go_at_call 307;refine(hr.out _ (hm.out.below (pbx)) hm2).mono ?_;rintro r w2 ⟨rfl,an⟩;rw [hre]))
  refine bodyPost_ret (v:=.tuple #[.slice none 0 0,.bool false,.int .i64 140]) (by simp [results,Tryz.results261,go_sem]) rfl ?_;have ai:Below w.heap.size w w2:=pbx;exact⟨_,ow,rfl,zp.of_below t ow ai,(zF.loc B f t).below h.out ai,jc _ _ _,by simp [Value.ownBlock]⟩
 rw [if_neg (by simp [hre])] at hR
 obtain⟨bb,ev,hB⟩:∃bb ev,Blk w B (vv bb ev f) 284:=h.2.choose_spec.choose_spec.1|>λh=>⟨_,_,h⟩
 have o1:=zb6 h;have bd:=hB.lt;unfold vv at hB;obtain⟨⟨ep,ve,st⟩,hn⟩:∃n,vo f.eras=n:=⟨_,rfl⟩;have ad:∀W,zF B {f with count:=f.count+1} t (ow.cut w) W->_:=λW hF=>Xo B {f with count:=f.count+1} t (ow.cut w) W hF (by show f.eras.length<=_;omega)
 simp only [hn] at ad hR;unfold Yh at ad;replace ad:=hid ad;replace hn:=hid hn;replace h:=hid h;have bf:=zhD ep ve st;have a7:f.count+1<=1073741825:=by omega
 obtain⟨a8,a9⟩:=hct
 by_cases hep:e.epoch=ep
 ·subst hep
  rw [if_neg (by simp)] at hR;replace hR:=hid hR
  go_enter func261,ntmps261
  go_wp2_with (first
   |(go_at_call 225;refine(ag.out _ ((zF.loc B f t).below h.out (pbx))).mono ?_;rintro r w1 ⟨rfl,rfl⟩)
   |(go_at_call 307;refine(hr.out _ (hm.out.below (pbx)) hm2).mono ?_;rintro r w2 ⟨rfl,an⟩;rw [hre]
     have ai:Below w.heap.size w w2:=ze (zi (N2 _ _) _) an;have kx:Blk w2 w.heap.size #[.int .i64 e.kind,.int .u32 e.epoch,.int .i64 e.ver,mv] 241:=Blk.call (Blk.new rfl) an;have kB:=hB.call ai;have eB:=kB.cell;have fB:=kB.frozen
     have lB:=kB.lt))
  clear eB fB;obtain⟨W3,ae⟩:∃W3,W3=w2.setCell ⟨B,2,none⟩ (.int .i64 (f.count+1)):=⟨_,rfl⟩;have ao:zF B {f with count:=f.count+1} t (ow.cut w) W3:=by rw [ae];exact((zF.loc B f t).cut h.out ai).count _
  have aq:Blk W3 w.heap.size #[.int .i64 e.kind,.int .u32 e.epoch,.int .i64 e.ver,mv] 241:=by rw [ae];exact kx.other (by simp;omega) _
  have ak:zp t ow w (ow.cut w) W3:=by rw [ae];exact⟨(Mod.of_below (λk=>Sub t (ow k)) ai).thenSet (p:=⟨B,2,none⟩) (by simp only [o1];exact Sub.rfl' t) _,λk hk=>Own.cut_old hk⟩
  rw [← ae];clear ae kB lB kx;refine zd [O 0,O 1,O 2,E 3,O 4,O 5] none (λw'=>Blk w' w.heap.size #[.int .i64 e.kind,.int .u32 e.epoch,.int .i64 e.ver,mv] 241/\True) (by kernel_rfl) (by kernel_rfl) ⟨aq.drew,trivial⟩ ?_
  refine Wd ?_
  refine zc rfl (λK hK=>?_)
  go_wp2_with (go_at_call 308;refine(ad.out _ ((zF.loc B _ t).below ao (Below.drew (N2 _ _)))).mono ?_;rintro r w4 ⟨rfl,am⟩)
  have ap:=aq.drew.call am;refine hK.out _ _ (λ_=>⟨ap,trivial⟩) ?_;clear hK
  refine Wd ?_
  refine zg ?_;have be:= @run_makeMap prog;have e4:=ap.cell;have m0:=zZ.made w4 Qz;obtain⟨ba,a0,m1⟩:=m0.update qw Tryz.underlying457 1 (.func (.func 309) #[.pointer (some ⟨B,0,none⟩)] #[]);rw [zC] at a0 m1;obtain⟨bc,ay,m2⟩:=m1.update qw Tryz.underlying457 2 (.func (.func 310) #[.pointer (some ⟨B,0,none⟩)] #[]);rw [zC] at ay m2;obtain⟨aj,az,m3⟩:=m2.update qw Tryz.underlying457 3 (.func (.func 311) #[.pointer (some ⟨B,0,none⟩)] #[]);rw [zC] at az m3;clear m0 m1 m2;have ar:e.kind=1∨e.kind=2∨e.kind=3:=zaT hre;have e5:=(ap.alloc aj).cell;have ac:zp t ow w (ow.cut w) (w4.alloc aj):=ak.trans ((zp.of_below t (ow.cut w) (Below.drew (N2 _ _))).trans ((zp.of_below t (ow.cut w) am).trans (zp.alloc t (ow.cut w) w4 aj)));have ah:zF B {f with count:=f.count+1} t (ow.cut w) (w4.alloc aj):=(zF.loc B _ t).below ((zF.loc B _ t).below ((zF.loc B _ t).below ao (Below.drew (N2 _ _))) am) ((N2 _ _).alloc (N0 _) _);have a4:qO (w4.alloc aj) mv e.msgs:=hm.out.step ac hmt.out
  have a3:∀a l c,mv=.slice (some a) l c->¬Sub t (ow.cut w a.block):=λa l c h hs=>by
   rcases Nat.lt_or_ge a.block w.heap.size with h1|h1
   ·rw [Own.cut_old h1] at hs;exact hmt.out a l c h hs
   rw [Own.cut_new h1] at hs;exact zj ht hs
  have a6:e.msgs.length<=64:=Yl hre
  rcases ar with hkind|hkind|hkind
  ·have al:=m3.lookup qw Tryz.underlying457 (z:=.nilFunc) (by kernel_rfl) e.kind
   rw [zmg _ _ _ _ hkind] at al;unfold Qz at al a0 ay az;replace hkind:=hid hkind;have ab:=hR.out;rw [if_pos hkind.out] at ab;replace ab:=hid ab;have aa:=zhM B {f with count:=f.count+1} t (ow.cut w) e mv (w4.alloc aj) ah a4 a3 (by show Zf f.book+_<=_;omega);unfold ZS at aa;replace aa:=hid aa
   go_wp2_with (go_at_call 309;refine aa.out.mono ?_;rintro r w6 ⟨nv,au,rfl,aw,af,a5,a1⟩;replace a1:Hid (∀_,_):=a1;replace af:Hid (zF _ _ _ _ _):=af)
   refine bodyPost_ret (v:=.tuple #[nv,.bool false,.int .i64 0]) (by simp [results,Tryz.results261,go_sem]) rfl ?_;have hz:=ac.size;rw [← ab.out];exact⟨nv,au,rfl,ac.trans aw,af.out,a5,λg hg=>⟨by have:=(a1.out g hg).1;omega,(a1.out g hg).2⟩⟩
  ·have al:=m3.lookup qw Tryz.underlying457 (z:=.nilFunc) (by kernel_rfl) e.kind
   rw [zmh _ _ _ _ hkind] at al;unfold Qz at al a0 ay az;replace hkind:=hid hkind;have ab:=hR.out;rw [if_neg (by rw [hkind.out];decide),if_pos hkind.out] at ab
   by_cases hck:j4 ve e.ver=0
   ·rw [if_neg (by simpa using hck)] at ab
    replace ab:=hid ab;have a2:=hid hck;clear hck;have aa:=zfQ B {f with count:=f.count+1} t (ow.cut w) e mv (w4.alloc aj) ah (by show j4 (vo f.eras).2.1 e.ver=0;rw [hn.out];exact a2.out) hl2;unfold ZS at aa;replace aa:=hid aa
    go_wp2_with (go_at_call 310;refine aa.out.mono ?_;rintro r w6 ⟨rfl,au,aw,af⟩;replace af:Hid (zF _ _ _ _ _):=af)
    refine bodyPost_ret (v:=.tuple #[.slice none 0 0,.bool true,.int .i64 0]) (by simp [results,Tryz.results261,go_sem]) rfl ?_;rw [← ab.out];exact⟨_,au,rfl,ac.trans aw,af.out,jc _ _ _,by simp [Value.ownBlock]⟩
   rw [if_pos (by simpa using hck)] at ab
   replace ab:=hid ab;have aa:=zhN B {f with count:=f.count+1} t (ow.cut w) e mv (w4.alloc aj) ah (by show j4 (vo f.eras).2.1 e.ver≠0;rw [hn.out];exact hck) hl2;unfold ZS at aa;replace aa:=hid aa
   go_wp2_with (go_at_call 310;refine aa.out.mono ?_;rintro r w6 ⟨rfl,ax⟩)
   refine bodyPost_ret (v:=.tuple #[.slice none 0 0,.bool false,.int .i64 0]) (by simp [results,Tryz.results261,go_sem]) rfl ?_;rw [← ab.out];exact⟨_,_,rfl,ac.trans (zp.of_below t _ ax),(zF.loc B _ t).below ah ax,jc _ _ _,by simp [Value.ownBlock]⟩
  have al:=m3.lookup qw Tryz.underlying457 (z:=.nilFunc) (by kernel_rfl) e.kind
  rw [zmi _ _ _ _ hkind] at al;unfold Qz at al a0 ay az;replace hkind:=hid hkind;have ab:=hR.out;rw [if_neg (by rw [hkind.out];decide),if_neg (by rw [hkind.out];decide)] at ab
  cases hsw:f.sw
  ·rw [if_pos hsw] at ab
   replace ab:=hid ab;have aa:=zdM B {f with count:=f.count+1} t (ow.cut w) (ZS e mv) ⟨_,_,_,_,rfl⟩ hsw (w4.alloc aj) ah;unfold ZS at aa;replace aa:=hid aa
   go_wp2_with (go_at_call 311;refine aa.out.mono ?_;rintro r w6 ⟨rfl,ax⟩)
   refine bodyPost_ret (v:=.tuple #[.slice none 0 0,.bool false,.int .i64 0]) (by simp [results,Tryz.results261,go_sem]) rfl ?_;rw [← ab.out];exact⟨_,_,rfl,ac.trans (zp.of_below t _ ax),(zF.loc B _ t).below ah ax,jc _ _ _,by simp [Value.ownBlock]⟩
  rw [if_neg (by simp [hsw])] at ab
  replace ab:=hid ab;have aa:=zb5 B {f with count:=f.count+1} t ht (ow.cut w) (ZS e mv) ⟨_,_,_,_,rfl⟩ hsw (w4.alloc aj) ah hl2;unfold ZS at aa;replace aa:=hid aa
  go_wp2_with (go_at_call 311;refine aa.out.mono ?_;rintro r w6 ⟨rfl,au,aw,af⟩;replace af:Hid (zF _ _ _ _ _):=af)
  refine bodyPost_ret (v:=.tuple #[.slice none 0 0,.bool true,.int .i64 0]) (by simp [results,Tryz.results261,go_sem]) rfl ?_;rw [← ab.out];exact⟨_,au,rfl,ac.trans aw,by have:=af.out;rw [show vo ({f with count:=f.count+1} :yB).eras=(e.epoch,ve,st)from hn.out] at this;exact this,jc _ _ _,by simp [Value.ownBlock]⟩
 have t1:((e.epoch:Int) !=(ep:Int))=true:=by simpa using(λh=>hep (by omega))
 rw [if_pos hep] at hR;clear hep;replace hR:=hid hR
 go_enter func261,ntmps261
 go_wp2_with (first
  |(go_at_call 225;refine(ag.out _ ((zF.loc B f t).below h.out (pbx))).mono ?_;rintro r w1 ⟨rfl,rfl⟩)
  |(go_at_call 307;refine(hr.out _ (hm.out.below (pbx)) hm2).mono ?_;rintro r w2 ⟨rfl,an⟩;rw [hre]
    have ai:Below w.heap.size w w2:=ze (zi (N2 _ _) _) an;have kx:Blk w2 w.heap.size #[.int .i64 e.kind,.int .u32 e.epoch,.int .i64 e.ver,mv] 241:=Blk.call (Blk.new rfl) an;have kB:=hB.call ai;have eB:=kB.cell;have fB:=kB.frozen
    have lB:=kB.lt))
 clear eB fB;obtain⟨W3,ae⟩:∃W3,W3=w2.setCell ⟨B,2,none⟩ (.int .i64 (f.count+1)):=⟨_,rfl⟩;have ao:zF B {f with count:=f.count+1} t (ow.cut w) W3:=by rw [ae];exact((zF.loc B f t).cut h.out ai).count _
 have aq:Blk W3 w.heap.size #[.int .i64 e.kind,.int .u32 e.epoch,.int .i64 e.ver,mv] 241:=by rw [ae];exact kx.other (by simp;omega) _
 have ak:zp t ow w (ow.cut w) W3:=by rw [ae];exact⟨(Mod.of_below (λk=>Sub t (ow k)) ai).thenSet (p:=⟨B,2,none⟩) (by simp only [o1];exact Sub.rfl' t) _,λk hk=>Own.cut_old hk⟩
 rw [← ae];clear ae kB lB kx;refine zd [O 0,O 1,O 2,E 3,O 4,O 5] none (λw'=>Blk w' w.heap.size #[.int .i64 e.kind,.int .u32 e.epoch,.int .i64 e.ver,mv] 241/\True) (by kernel_rfl) (by kernel_rfl) ⟨aq.drew,trivial⟩ ?_
 refine Wd ?_
 refine zc rfl (λK hK=>?_)
 go_wp2_with (go_at_call 308;refine(ad.out _ ((zF.loc B _ t).below ao (Below.drew (N2 _ _)))).mono ?_;rintro r w4 ⟨rfl,am⟩)
 have ap:=aq.drew.call am;refine hK.out _ _ (λ_=>⟨ap,trivial⟩) ?_;clear hK
 refine Wd ?_
 refine zg ?_;have ac:zp t ow w (ow.cut w) w4:=ak.trans ((zp.of_below t (ow.cut w) (Below.drew (N2 _ _))).trans (zp.of_below t (ow.cut w) am));have ah:zF B {f with count:=f.count+1} t (ow.cut w) w4:=(zF.loc B _ t).below ((zF.loc B _ t).below ao (Below.drew (N2 _ _))) am;clear ao ak;replace ah:=hid ah;go_wp2;refine bodyPost_ret (v:=.tuple #[.slice none 0 0,.bool false,.int .i64 0]) (by simp [results,Tryz.results261,go_sem]) rfl ?_;rw [← hR.out];exact⟨_,_,rfl,ac,ah.out,jc _ _ _,by simp [Value.ownBlock]⟩
