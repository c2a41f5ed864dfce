/- PARTS OF THE PROOF. -/
import Derived.Test.YtofppfoioodblaaGreatDoorDA04
set_option maxRecDepth 8000
set_option maxHeartbeats 4000000
open Go.Proofs.Tryz
namespace Go.Proofs.YtofppfoioodblaaGreatDoor
section
open Go Go.RowKit Go.Shelf Go.Extern.Stop Go.Stop Go.Extern
attribute [local go_sem] Oper.semAt_some zB zo
theorem v8.wait {b:vF}(h:v8 b){m:zx}(hm:zz m=true):v8 {b with ws:=put m.1 m b.ws} :=by
 refine⟨h.sixteen,h.most,?_⟩;intro p hp;have hk:=h.keys
 generalize b.ws=l at hp hk
 have aa:p∈put m.1 m l:=hp;clear hp
 induction l with
 |nil=>simp [put] at aa;subst aa;exact⟨rfl,hm⟩
 |cons q l ih=>
  obtain⟨k,v⟩:=q;unfold put at aa
  split at aa
  ·rcases List.mem_cons.1 aa with rfl|h1
   ·exact⟨rfl,hm⟩
   exact hk p (U7 _ h1)
  rcases List.mem_cons.1 aa with rfl|h1
  ·exact hk _ (List.mem_cons_self ..)
  exact ih (λq hq=>hk q (U7 _ hq)) h1
theorem zfJ(mb:Nat)(w:World):(binOp .eql 138 (.map (some mb)) (.map none)).run prog w=.ok (.bool false) w:=by kernel_rfl
theorem zjG(B:Nat)(b:vF)(t:List Nat)(ow:Own)(m:zx)(hm:zz m=true)(w:World)(hb:jP B b t ow w):Calls prog 362 #[.pointer (some ⟨B,0,none⟩),vO m] w λe w'=>
 e=.returned (.tuple #[])/\∃ow',zp t ow w ow' w'/\jP B (if zhw b m.1 then b else {b with ws:=put m.1 m b.ws}) t ow' w':=by
 obtain⟨⟨i,c⟩,d⟩:=m;have ab:=hb;obtain⟨ae,lv,mb,hB,hR,hM,o1,o2,o3⟩:=hb;have ai:=zfJ mb
 cases hh:zhw b (i,c)
 ·unfold vO
  go_enter func362,ntmps362
  go_wp2_with (first
   |(go_at_call 365;refine(zhx B b t ow _ _ _ ((jP.loc B b t).below ab (pbx))).mono ?_;rintro e w1 ⟨rfl,ac⟩
     have k0:Blk w1 w.heap.size #[.int .i64 i,.int .u32 c,.string (bs d)] 78:=Blk.call (bkx) ac;have aa:Below w.heap.size w w1:=pbx;have c0:=k0.cell;have cB:w1.cell? ⟨B,17,none⟩=some (.map (some mb)):=((hB.call aa).cell 17).trans (xP b.tk lv mb ae.sixteen);have af:zZ w1.drew mb idV (b.ws.map λp=>(p.1,vO p.2)):=hM.kept (aa.block mb hM.lt);obtain⟨o,ag,ah⟩:=af.update zaN Tryz.underlying138 (i,c) (.agg #[.int .i64 i,.int .u32 c,.string (bs d)])
     unfold idV at ag))
  go_region
  go_wp2;go_end0
  refine⟨rfl,ow,(zp.of_below t ow (zm aa)).trans (zp.putObj _ mb o (by rw [o2];exact Sub.rfl' t)),ae.wait hm,lv,mb,(hB.call aa).drew.putObj (hB.ne_map hM) o,?_,?_,o1,o2,o3⟩
  ·exact hR.kept (λg hg=>(U1 (hR.ne_map hM hg)).trans (aa.block g (hR.lt hg)))
  have ad:zZ (w1.drew.putObj mb o) mb idV (put (i,c) (vO ((i,c),d)) (b.ws.map λp=>(p.1,vO p.2))):=ah
  rw [Y5 vO] at ad;exact ad
 unfold vO
 go_enter func362,ntmps362
 go_wp2_with (go_at_call 365;refine(zhx B b t ow _ _ _ ((jP.loc B b t).below ab (pbx))).mono ?_;rintro e w1 ⟨rfl,ac⟩)
 refine bodyPost_ret (results_none rfl _ _ _) rfl ?_;have aa:Below w.heap.size w w1:=pbx;exact⟨rfl,ow,zp.of_below t ow aa,(jP.loc B b t).below ab aa⟩
theorem zdI:Yf prog 42 78 3 32 (.agg #[.int .i64 0,.int .u32 0,.string ⟨#[]⟩]):=⟨Tryz.underlying42,by kernel_rfl,rfl,by decide,by decide⟩
theorem jA(l:List zx):∀u∈l.flatMap zh,u.oneCell'=true:=by
 intro u hu;obtain⟨m,_,hm⟩:=List.mem_flatMap.1 hu;simp [zh] at hm
 rcases hm with rfl|rfl|rfl<;>rfl
theorem zbZ(l:List zx):(l.flatMap zh).length=l.length*3:=by
 induction l with
 |nil=>rfl
 |cons m l ih=>simp [List.flatMap_cons,zh,ih];omega
theorem zb0(w:World):(binOp .eql 42 (.slice none 0 0) (.slice none 0 0)).run prog w=.ok (.bool true) w:=by kernel_rfl
theorem zdJ(a:Addr)(n c:Nat)(w:World):(binOp .eql 42 (.slice (some a) n c) (.slice none 0 0)).run prog w=.ok (.bool false) w:=by kernel_rfl
theorem zjH(w:World)(e:TypeId)(size:Nat):Row (w.alloc (.cells #[] e)) e size (.slice (some ⟨w.heap.size,0,none⟩) 0 0) 0 []:=
 ⟨by simp,.inr ⟨w.heap.size,0,#[],rfl,Nat.zero_le _,World.alloc_heap_new w _,N0 _,Nat.zero_le _,by simp,by simp⟩⟩
theorem Xn(v:Value)(l:List zx)(w:World)(hv:Src w v 3 l.length (l.flatMap zh))(hb:l.length<=1073741824):Calls prog 38 #[v] w λe w'=>
 ∃v',e=.returned v'/\Row w' 78 3 v' l.length (l.flatMap zh)/\Below w.heap.size w w'/\(∀g,v'.ownBlock=some g->w.heap.size<=g):=by
 have ag:=zb0 w;have ah:=λa n c=>zdJ a n c w
 have ab:=hv
 rcases hv.2 with⟨rfl,h0⟩|⟨b,off,cap,rfl,hc,hr⟩
 ·obtain rfl:l=[]:=N9 h0
  go_enter func38,ntmps38
  go_wp2;go_ret
  exact⟨_,rfl,jc _ _ _,N2 _ _,by simp [Value.ownBlock]⟩
 clear hr hv
 replace ab:=hid ab;replace hb:=hid hb
 go_enter func38,ntmps38
 go_wp2_with (at_builtin
              obtain⟨v',w',ac,ad,ae,aa⟩:=zM zdI (zjH w 78 3) (Src.below (Hid.out ab) ((N2 _ _).alloc (N0 _) _)) (jA l) (by have:=hb.out;omega) 42
              refine zv rfl _ _ _ rfl rfl rfl ac ?_)
 go_ret
 refine⟨_,rfl,by simpa using ad,((N2 _ _).alloc (N0 _) _).grown ae (by simp) (λk hk=>by simp [Value.ownBlock] at hk;omega),λg hg=>?_⟩;have af:v'.ownBlock=some g:=hg
 rcases aa with h1|h1<;>rw [af] at h1<;>simp [Value.ownBlock] at h1<;>omega
theorem zlj(B:Nat)(m:zx)(w:World):Calls prog 363 #[.pointer (some ⟨B,0,none⟩),vO m] w λe w'=>
 e=.returned (.func (.func 366) #[] #[.pointer (some ⟨w.heap.size+1,0,none⟩),.pointer (some ⟨w.heap.size,0,none⟩)])/\
 w'=(w.alloc (.cells #[.pointer (some ⟨B,0,none⟩)] 279)).alloc (.cells #[.int .i64 m.1.1,.int .u32 m.1.2,.string (bs m.2)] 78):=by
 unfold vO
 go_enter func363,ntmps363
 go_wp2;go_ret
 exact⟨rfl,rfl⟩
theorem xQ {V:Type}{k:MId}{v:V} :∀ {l:List (MId×V)},zH k l=some v->(k,v)∈l
 | [],h=>by cases h
 |(k',v')::l,h=>by
  unfold zH at h
  split at h
  ·rename_i hk;cases h;subst hk;exact List.mem_cons_self ..
  exact U7 _ (xQ h)
theorem zdK {V:Type}(k:MId):∀(l:List (MId×V)),∀p∈del k l,p∈l
 | [],p,h=>by cases h
 |(k',v')::l,p,h=>by
  unfold del at h
  split at h
  ·exact U7 _ h
  rcases List.mem_cons.1 h with rfl|h1
  ·exact List.mem_cons_self ..
  exact U7 _ (zdK k l p h1)
def zdy(ws:List (MId×zx)):Prop:=∀p∈ws,p.2.1=p.1/\zz p.2=true
theorem zdy.del {ws:List (MId×zx)}(h:zdy ws)(k:MId):zdy (del k ws):=λp hp=>h p (zdK k ws p hp)
def zjI:zx:=((0,0),[])
def Ze(v:Value)(o:Nat)(w:World):Value:=match v with| .pointer (some a)=>(w.cell? ⟨a.block,o,none⟩).getD undef|_=>undef
def zlk(p4 p5:Value)(wr:World):Nat:=match p5 with| .bool true=>4294967296 - (intOf (Ze p4 1 wr)).toNat|_=>0
theorem zjJ(bm bb B mb:Nat)(m:zx)(ws0:List (MId×zx))(hok0:zdy ws0)(hm:zz m=true):
 zaF Fence.wide 2 prog 366 #[.pointer (some ⟨bm,0,none⟩),.pointer (some ⟨bb,0,none⟩)] (λx:zx=> #[vO x])
  (λ(s:List (MId×zx)×Option zx) x=>s.2=some x/\zz x=true/\zdy s.1) (λs x=>(del x.1 s.1,zH (x.1.1,(x.1.2+1)% 4294967296) (del x.1 s.1))) (λs=>s.2=none)
  (λs W=>Blk W bm #[.int .i64 m.1.1,.int .u32 m.1.2,.string (bs m.2)] 78/\W.cell? ⟨bb,0,none⟩=some (.pointer (some ⟨B,0,none⟩))/\W.cell? ⟨B,17,none⟩=some (.map (some mb))/\zZ W mb idV (s.1.map λp=>(p.1,vO p.2))) (ws0,some m):=by
 intro l J Jx W hJ hJx hRd hY h0;obtain⟨r0,r1,r2,r3⟩:=hRd _ _ _ h0;have c0:=r0.cell;have f0:=r0.lt;have hF:Fence.wide.fn 366:=trivial;have ao:Fence.wide.round=none:=rfl;refine callsIn_of_wp func366 rfl hF ?_ ao;simp only [ntmps366,R8,Nat.reduceAdd,Nat.reduceSub]
 gi_wp2
 gi_loopw [4,5] (λp4 p5 wr=>∃(ws:List (MId×zx)) (o:Option zx) (X:Nat->Prop) (cb:Nat),p4=.pointer (some ⟨cb,0,none⟩)/\p5=.bool o.isSome/\
  Blk wr cb #[.int .i64 (o.getD zjI).1.1,.int .u32 ((o.getD zjI).1.2:Nat),.string (bs (o.getD zjI).2)] 78/\X cb/\zdy ws/\zz (o.getD m)=true/\J (ws,o) X wr)
  (λp4 p5 wr=>zlk p4 p5 wr)
 case atStart=>exact⟨ws0,some m,λk=>False∨k=W.heap.size,W.heap.size,rfl,rfl,Blk.new rfl,.inr rfl,hok0,hm,hJ.alloc (.cells #[.int .i64 m.1.1,.int .u32 m.1.2,.string (bs m.2)] 78) h0⟩
 case round=>
  clear r0 r1 r2 r3 c0 f0;obtain⟨ws,o,X,cb,rfl,rfl,ae,hX,ad,aj,ai⟩:=hrel
  cases o with
  |none=>
   gi_wp2
   go_end0
   exact⟨⟨_,rfl⟩,.inl ⟨(ws,none),X,rfl,ai⟩⟩
  |some x=>
   obtain⟨⟨i,c⟩,d⟩:=x;have c0:=ae.cell;simp only [Option.getD_some] at c0;obtain⟨fn,tmps,assign,body,hy,hR⟩:=hY (ws,some ((i,c),d)) ((i,c),d) X _ ai ⟨rfl,aj,ad⟩;unfold vO at hy
   gi_wp2
   refine hR.mono ?_;rintro e W'(⟨rfl,ag,ap⟩|⟨rfl,an⟩)
   ·clear c0 hR hy
    obtain⟨-,r1,r2,r3⟩:=hRd _ _ _ ag;have ah:Blk W' cb #[.int .i64 i,.int .u32 c,.string (bs d)] 78:=ae.kept (ap.2 cb hX ae.lt);have c0:=ah.cell;have g0:=ah.frozen;have ar:=ah.lt;have ab:(((c+1)% 4294967296:Nat):Int)=((c:Int)+1)% 4294967296:=by omega
    obtain⟨y,hy⟩:∃y,zH (i,(c+1)% 4294967296) (del (i,c) ws)=y:=⟨_,rfl⟩;have aa:=(r3.kept (w':=W'.drew) rfl).lookup_ok zaN Tryz.underlying138 (zeX W'.drew) (i,(c+1)% 4294967296);rw [xO,Option.isSome_map,hy] at aa;obtain⟨ym,ac⟩:∃ym,y.getD zjI=ym:=⟨_,rfl⟩;have al:Hid (∀z,y=some z->z.1=(i,(c+1)% 4294967296)):=λz hz=>((ad.del (i,c)) _ (xQ (hy.trans hz))).1
    have am:Hid (zz (y.getD m)=true):=by
     cases hyy:y with
     |none=>exact hm
     |some z=>exact((ad.del (i,c)) _ (xQ (hy.trans hyy))).2
    replace hy:=hid hy;replace ac:=hid ac
    have hv:(y.map vO).getD (.agg #[.int .i64 0,.int .u32 0,.string ⟨#[]⟩])=.agg #[.int .i64 ym.1.1,.int .u32 ym.1.2,.string (bs ym.2)]:=by
     rw [← ac.out];cases y<;>rfl
    rw [hv] at aa;unfold idV at aa;rw [ab] at aa;have af:=aa;rw [show((c:Int)+1)% 4294967296=IntKind.u32.wrap ((c:Int)+1)from(IntKind.wrap_u32 _).symm] at af;clear hv r3
    gi_wp2
    refine wpIn_wide.2 ?_
    go_region
    gi_wp2
    go_roundw
    case rel=>
     refine⟨del (i,c) ws,y,λk=>X k∨k=W'.heap.size,W'.heap.size,rfl,rfl,?_,.inr rfl,ad.del _,am.out,?_⟩
     ·rw [ac.out];exact(Blk.new (by simp)).drew
     rw [hy.out] at ag
     exact hJ _ _ _ _ _ ag (((((Mod.refl X W').thenSet hX _).thenSet hX _).thenSet hX _).thenAlloc _).thenDrew (λk hk=>by
      rcases hk with h|h
      ·exact .inl h
      right;subst h;simp)
    case measure=>
     have e1:Ze (.pointer (some ⟨cb,0,none⟩)) 1 wr=.int .u32 (c:Int):=by
      show(wr.cell? ⟨cb,1,none⟩).getD undef=_
      rw [ae.cell 1];rfl
     have aq:c<=4294967294:=by
      have h1:zz ((i,c),d)=true:=aj;simp [zz] at h1;exact h1.2
     cases y with
     |none=>
      show 0<4294967296 - (intOf (Ze (.pointer (some ⟨cb,0,none⟩)) 1 wr)).toNat
      rw [e1];simp only [intOf];omega
     |some z=>
      have hz:=al.out z rfl;have ak:ym=z:=ac.out.symm
      have e2:Ze (.pointer (some ⟨W'.heap.size,0,none⟩)) 1 ((((W'.setCell ⟨cb,0,none⟩ (.int .i64 ym.1.1)).setCell ⟨cb,1,none⟩ (.int .u32 ym.1.2)).setCell ⟨cb,2,none⟩ (.string (bs ym.2))).alloc (.cells #[.int .i64 ym.1.1,.int .u32 ym.1.2,.string (bs ym.2)] 78)).drew=.int .u32 (ym.1.2:Int):=by
       have hk:Blk ((((W'.setCell ⟨cb,0,none⟩ (.int .i64 ym.1.1)).setCell ⟨cb,1,none⟩ (.int .u32 ym.1.2)).setCell ⟨cb,2,none⟩ (.string (bs ym.2))).alloc (.cells #[.int .i64 ym.1.1,.int .u32 ym.1.2,.string (bs ym.2)] 78)).drew W'.heap.size #[.int .i64 ym.1.1,.int .u32 ym.1.2,.string (bs ym.2)] 78:=(Blk.new (by simp)).drew
       show(World.cell? _ ⟨W'.heap.size,1,none⟩).getD undef=_
       rw [hk.cell 1];rfl
      show 4294967296 - (intOf (Ze (.pointer (some ⟨W'.heap.size,0,none⟩)) 1 _)).toNat<4294967296 - (intOf (Ze (.pointer (some ⟨cb,0,none⟩)) 1 wr)).toNat
      rw [e1,e2];simp only [intOf];rw [ak,hz];simp only;omega
   gi_wp2
   refine bodyPost_ret (results_none rfl _ _ _) rfl ?_;exact⟨⟨_,rfl⟩,.inr ⟨_,an⟩⟩
end
section
open Go Go.RowKit Go.Shelf Go.Extern.Stop Go.Stop Go.Extern Go.Lib
attribute [local go_sem] Oper.semAt_some zB zo
def Ji(m:zx):List (List UInt8):=[[UInt8.ofNat (m.1.1 % 256).toNat],le4 m.1.2,le4 m.2.length,m.2]
def jM(n:Nat)(l:List zx):List (List UInt8):=[UInt8.ofNat (n % 256)]::l.flatMap Ji
theorem JF(n:Nat)(l:List zx):(jM n l).flatten=[UInt8.ofNat (n % 256)] ++l.flatMap jk:=by
 unfold jM;rw [List.flatten_cons]
 congr 1
 induction l with
 |nil=>rfl
 |cons m l ih=>simp [List.flatMap_cons,Ji,jk,ih]
theorem zb1(a b:List (List UInt8)):yh (a++b)=yh a++yh b:=by simp [yh]
theorem Vy(l:List zx):(l.flatMap Ji).length=4*l.length:=by
 induction l with
 |nil=>rfl
 |cons y ll ih=>rw [List.flatMap_cons,N1,ih];simp [Ji];omega
theorem ZR:∀(l:List zx),(∀x∈l,zz x=true)->(l.flatMap jk).length<=1009*l.length
 | [],_=>by simp
 |m::l,h=>by
  have ih:=ZR l (λx hx=>h x (U7 _ hx));have hm:=h m (List.mem_cons_self ..);simp [zz] at hm
  rw [List.flatMap_cons,N1,List.length_cons];have:(jk m).length=9+m.2.length:=by simp [jk,zY];omega
  omega
def zeY(l:List zx)(n pb rb cb:Nat)(v:Value)(W0:World)(k:Nat)(X:Nat->Prop)(W:World):Prop:=
 Fr (λk=>k=pb∨k=rb∨k+1=pb) W0 X W/\Blk W cb #[v] 42/\k<=l.length/\(∀x∈l.take k,zz x=true)/\
  Blk W rb #[.bool true] 4/\∃pv,Blk W pb #[pv] 107/\Row W 9 1 pv (jM n (l.take k)).length (yh (jM n (l.take k)))/\(∀g,pv.ownBlock=some g->(g+1=pb∨W0.heap.size<=g)/\¬X g)
theorem zeY.stab {l:List zx}{n pb rb cb:Nat}{v:Value}{W0:World}{k:Nat}{X X':Nat->Prop}{W W':World}(h1:pb<W0.heap.size)(h2:rb<W0.heap.size)(h3:cb<W0.heap.size)
 (h:zeY l n pb rb cb v W0 k X W) (hm:Mod X W W') (hx:∀k,X' k->X k∨(W.heap.size<=k/\k<W'.heap.size)):zeY l n pb rb cb v W0 k X' W':=by
 obtain⟨aa,kc,hk,hr,kr,pv,kp,kw,hn⟩:=h;refine⟨aa.step hm hx,kc.kept (aa.block hm h3),hk,hr,kr.kept (aa.block hm h2),pv,kp.kept (aa.block hm h1),kw.mod hm (λg hg=>(hn g hg).2),λg hg=>⟨(hn g hg).1,λhX=>?_⟩⟩
 rcases hx g hX with h|h
 ·exact(hn g hg).2 h
 have:=kw.lt hg;omega
theorem zeZ(v:Value)(l:List zx)(w:World)(hv:Src w v 3 l.length (l.flatMap zh))(hl:l.length<=1073741824):Calls prog 92 #[v] w λe w'=>
 e=.returned (.tuple #[.string (bs (yj l).1),.int .i64 (yj l).2])/\Below w.heap.size w w':=by
 obtain⟨sa,sn,sc,rfl,rfl⟩:∃a n c,v=.slice a n c/\n=l.length:=by
  rcases hv.2 with⟨rfl,h⟩|⟨b,off,cap,rfl, -⟩
  ·exact⟨_,_,_,rfl,h.symm⟩
  exact⟨_,_,_,rfl,rfl⟩
 by_cases h64:64<l.length
 ·have hp:yj l=([],101):=by unfold yj;rw [if_pos h64]
  have t0:decide (64<(l.length:Int))=true:=by simp;omega
  rw [hp];clear hp hv h64;refine zl func92 rfl ?_;simp only [ntmps92,R8,Nat.reduceAdd,Nat.reduceSub];go_wp2;go_step3;go_wp2;rw [Exit.noGoto_ret];exact jp (v:=.tuple #[.string (bs []),.int .i64 101]) (by simp [results,Tryz.results92,go_sem,bs]) ⟨rfl,pbx⟩
 have t0:decide (64<(l.length:Int))=false:=by simp;omega
 have a4:∀(W:World)(b:Nat)(n:Int),W.cell? ⟨b,0,none⟩=some (.int .u8 n)->(convert 49 9 (.slice (some ⟨b,0,none⟩) 1 1)).run prog W=.ok (.string (strOfNums [n])) W:=λW b n h=>
  run_convert_bytes_arg W 49 5 Tryz.underlying49 Tryz.underlying5 b 0 1 1 [n] rfl (λi hi=>by obtain rfl:i=0:=(by omega);exact h) 9 Tryz.underlying9
 have bh:=a4 (w.alloc (.cells #[.int .u8 (l.length:Int)] 5)) w.heap.size l.length (by simp);replace a4:=hid a4;replace hv:=hid hv;refine zl func92 rfl ?_;simp only [ntmps92,R8,Nat.reduceAdd,Nat.reduceSub];go_wp2;go_step3;go_wp2;go_step3
 go_wp2_with (go_at_call 133;refine(QX _ ⟨_,_,_,rfl⟩ _).mono ?_;rintro e w1 ⟨rfl,rfl⟩)
 obtain⟨W0,ag⟩:∃W0,W0=((((w.alloc (.cells #[.int .u8 (l.length:Int)] 5)).alloc (.cells #[.string (strOfNums [(l.length:Int)])] 9)).alloc (.cells #[.slice (some ⟨w.heap.size+1,0,none⟩) 1 1] 107)).alloc (.cells #[.bool true] 4)).alloc (.cells #[.slice sa l.length sc] 42):=⟨_,rfl⟩;rw [← ag];obtain⟨pb,af⟩:∃pb,pb=w.heap.size+1+1:=⟨_,rfl⟩;rw [← af];have b5:W0.heap.size=pb+3:=by rw [ag,af];simp
 have a1:Below w.heap.size w W0:=by rw [ag];exact pbx
 have kp:Blk W0 pb #[.slice (some ⟨w.heap.size+1,0,none⟩) 1 1] 107:=by rw [ag];exact((Blk.new (by simp [af])).alloc _).alloc _
 have kr:Blk W0 (pb+1) #[.bool true] 4:=by rw [ag];exact(Blk.new (by simp [af])).alloc _
 have kc:Blk W0 (pb+1+1) #[.slice sa l.length sc] 42:=by rw [ag];exact Blk.new (by simp [af])
 have bo:strOfNums [(l.length:Int)]=bs [UInt8.ofNat (l.length % 256)]:=by
  unfold strOfNums bs;rw [Xd];simp
 have kw:Row W0 9 1 (.slice (some ⟨w.heap.size+1,0,none⟩) 1 1) (jM l.length (l.take 0)).length (yh (jM l.length (l.take 0))):=by
  have k1:Blk W0 (w.heap.size+1) #[.string (bs [UInt8.ofNat (l.length % 256)])] 9:=by rw [ag,bo];exact(((Blk.new (by simp)).alloc _).alloc _).alloc _
  exact⟨rfl,.inr ⟨w.heap.size+1,1,_,rfl,Nat.zero_le _,k1,N0 _,by decide,rfl,rfl⟩⟩
 have b4:=hv.out.below a1;have bm:w.heap.size+2<=pb:=by omega
 replace af:=hid af;clear bh bo
 refine yV (gf:=174) (lb:=#[.pointer (some ⟨pb+1+1,0,none⟩)]) rfl (enters_of func174 (by kernel_rfl) rfl)
  (Xh (pb+1+1) (.slice sa l.length sc) l hl) (λ_=>rfl)
  (λk X W=>zeY l l.length pb (pb+1) (pb+1+1) (.slice sa l.length sc) W0 k X W)
  (λc X W=>c=.exit 0/\(∃x∈l,zz x=false)/\Fr (λk=>k=pb∨k=pb+1∨k+1=pb) W0 X W/\Blk W (pb+1) #[.bool false] 4)
  (λk X X' W W' h hm hx=>h.stab (by omega) (by omega) (by omega) hm hx)
  (λc s X X' W W' h hm hx=>⟨h.1,h.2.1,h.2.2.1.step hm hx,h.2.2.2.kept (h.2.2.1.block hm (by omega))⟩)
  (λk X W h=>⟨h.2.1,hv.out.below (a1.trans (h.1.below (by omega) (λk hk=>by omega)))⟩)
  (λk X W h=>⟨h.1.2.size,λk hk=>(h.1.1 k hk).2⟩)
  ⟨Fr.refl _ _,kc,Nat.zero_le _,by simp,kr,_,kp,kw,by intro g hg;simp [Value.ownBlock] at hg;subst hg;have:=af.out;exact⟨.inl (by omega),id⟩⟩
  6 78 (λx=> #[.int .i64 x.1.1,.int .u32 x.1.2,.string (bs x.2)]) ?assign ?body ?done ?stop
 case assign=>
  intro l' x W K hK;rw [jf] at hK⊢;unfold vO at hK⊢
  gi_wp2
  exact hK
 case body=>
  rintro l' k x cb X X1 W1 W h1 h a5 b8 b6 b2 kx b1 _;obtain⟨ab,bg,hk,ak,ae,pv,a3,an,hn⟩:=h;obtain⟨⟨i,c⟩,d⟩:=x;have e0:=kx.cell;simp only at e0;rw [jf];unfold vO;have lr:=ae.lt;have lc:=kx.lt;have lp:=a3.lt
  cases hr:zz ((i,c),d)
  ·gi_wp2_with (gi_at_call 91;refine(inRound _ _ (vS _ _ _ _)).mono ?_;rintro e w1 ⟨rfl,au⟩;have a8:=ae.call au;have er:=a8.cell;have fr:=a8.frozen;rw [hr])
   have hm:Mod (λk=>k=pb+1) W (w1.setCell ⟨pb+1,0,none⟩ (.bool false)):=(Mod.of_below (λk=>k=pb+1) au).thenSet (p:=⟨pb+1,0,none⟩) rfl _;refine⟨⟨rfl,⟨((i,c),d),List.mem_of_getElem? a5,hr⟩,ab.mod hm (λk _ h=>.inr (.inl h)),a8.set _⟩,jm.of_mod hm (λk _ hX he=>by have:=ab.1 k hX;omega)⟩
  obtain⟨xk,rfl,ca⟩:∃k:Nat,i=k/\k<16:=by
   have:=hr;simp [zz] at this
   exact⟨i.toNat,by omega,by omega⟩
  have b9:(xk:Int)<16:=by omega
  gi_wp2_with (gi_at_call 91
               refine(inRound _ _ (vS _ _ _ _)).mono ?_;rintro e w1⟨rfl,au⟩;have ba:=kx.call au;have ex:=ba.cell;have bt:=ba.lt;have bd:=a4.out (w1.alloc (.cells #[.int .u8 (xk:Int)] 5)) w1.heap.size xk (by simp)
               rw [hr])
  obtain⟨W2,a7⟩:∃W2,W2=w1.alloc (.cells #[.int .u8 (xk:Int)] 5):=⟨_,rfl⟩;rw [← a7];have aj:Below W.heap.size W W2:=by rw [a7];exact zi au _
  have ar:=kx.call aj;have ap:=a3.call aj
  have b3:((bs d).size:Int)<=1000:=by
   have:=hr;simp [zz] at this
   rw [zI];omega
  clear ex bd bt ba e0 a7;refine jI [O 0,O 1,O 2,O 3,O 4,O 6,O 7,O 8,O 9,O 11,O 12,E 5,E 10,E 13,E 14,E 15] (some 15) (λw'=>Blk w' cb #[.int .i64 (xk:Int),.int .u32 (c:Int),.string (bs d)] 78/\Blk w' pb #[pv] 107/\True) (by kernel_rfl) (by kernel_rfl) ⟨ar.drew,ap.drew,trivial⟩ ?_
  refine Wb ?_
  replace ar:=ar.drew;replace ap:=ap.drew;refine zc rfl (λK hK=>?_)
  go_wp2_with (go_at_call 134;refine(yT _ _).mono ?_;rintro e w3 ⟨rfl,ax⟩)
  refine hK.out _ _ (λ_=>⟨ar.call ax,ap.call ax,trivial⟩) ?_;clear hK K;have bj:=ar.call ax;have bl:=ap.call ax;refine zc rfl (λK hK=>?_)
  go_wp2_with (go_at_call 134;refine(yT _ _).mono ?_;rintro e w4 ⟨rfl,am⟩)
  refine hK.out _ _ (λ_=>⟨bj.call am,bl.call am,trivial⟩) ?_;clear hK K;have bq:=bj.call am;have bp:=bl.call am;refine zc rfl (λK hK=>?_);go_wp2;obtain⟨w5,ao⟩:∃w5,w5=w4.alloc (.cells #[.string (strOfNums [(xk:Int)]),.string (bs (le4 c)),.string (bs (le4 (bs d).size)),.string (bs d)] 9):=⟨_,rfl⟩;have k5:Blk w5 w4.heap.size #[.string (strOfNums [(xk:Int)]),.string (bs (le4 c)),.string (bs (le4 (bs d).size)),.string (bs d)] 9:=by rw [ao];exact Blk.new rfl
  have a6:=bq.alloc (.cells #[.string (strOfNums [(xk:Int)]),.string (bs (le4 c)),.string (bs (le4 (bs d).size)),.string (bs d)] 9);have aw:=bp.alloc (.cells #[.string (strOfNums [(xk:Int)]),.string (bs (le4 c)),.string (bs (le4 (bs d).size)),.string (bs d)] 9);rw [← ao] at a6 aw⊢;have ah:Below W.heap.size W w5:=by rw [ao];exact zi (ze (ze (zm aj) ax) am) _
  have b7:w4.heap.size<w5.heap.size:=by rw [ao];simp
  refine hK.out _ _ (λ_=>⟨a6,aw,trivial⟩) ?_;clear hK K ao
  have a9:strOfNums [(xk:Int)]=bs [UInt8.ofNat ((xk:Int)% 256).toNat]:=by
   rw [zbO,Xd];unfold strOfNums bs;simp
  have bc:=zI d;have bf:yh (Ji (((xk:Int),c),d))=[.string (strOfNums [(xk:Int)]),.string (bs (le4 c)),.string (bs (le4 (bs d).size)),.string (bs d)]:=by rw [a9,bc];rfl
  have ai:(jM l.length (l.take k)).length+4<=1073741824:=by
   have h1:(l.take k).length<=64:=by rw [N7];omega
   have h2:=Vy (l.take k);simp only [jM,List.length_cons,h2];omega
  have bb:jM l.length (l.take (k+1))=jM l.length (l.take k)++Ji (((xk:Int),c),d):=by
   unfold jM;rw [List.take_add_one,a5];simp [List.flatMap_append]
  replace bf:=hid bf;replace bc:=hid bc;replace a9:=hid a9;replace bb:=hid bb;replace ai:=hid ai;refine zc rfl (λK hK=>?_);obtain⟨cc,w6,al,aq,az,ac⟩:=zM zmF (an.below ah) (jD (n:=4) (size:=1) (cap:=4) k5 rfl (N0 4)) (by simp only [List.mem_cons,List.mem_nil_iff,or_false];rintro u (rfl|rfl|rfl|rfl)<;>rfl) ai.out 107;refine zv rfl _ _ _ rfl rfl rfl al ?_;unfold wpList;have aa:∀g,pv.ownBlock=some g->g≠pb/\g≠pb+1/\g≠cb/\¬X g/\(g+1=pb∨W0.heap.size<=g):=λg hg=>⟨by have:=(hn g hg).1;omega,by have:=(hn g hg).1;omega,an.ne_blk kx (by decide) hg,(hn g hg).2,(hn g hg).1⟩
  have bw:=a6.kept (az.block cb a6.lt (λe=>(aa cb e.symm).2.2.1 rfl));have a2:=aw.kept (az.block pb aw.lt (λe=>(aa pb e.symm).1 rfl));refine hK.out _ _ (λ_=>⟨bw,a2,trivial⟩) ?_;clear hK K al;refine zc rfl (λK hK=>?_);obtain⟨va,vn,vc,rfl⟩:=aq.shape;have bv:=a2.cell;have bu:=a2.frozen;replace aa:=hid aa;replace bm:=hid bm;go_wp2;refine hK.out _ _ (λh=>absurd rfl h) ?_;clear hK K bv bu;refine zg ?_
  have hm:Mod (λk=>k=pb∨pv.ownBlock=some k) W (w6.setCell ⟨pb,0,none⟩ (.slice va vn vc)):=
   ((Mod.of_below (λk=>k=pb∨pv.ownBlock=some k) ah).trans (Mod.grown az (λk h=>.inr h)) (λ_ _ e=>e) (λ_ _ e=>e)).thenSet (p:=⟨pb,0,none⟩) (.inl rfl) _
  have bn:∀k,k<w5.heap.size->pv.ownBlock≠some k->k≠pb->(w6.setCell ⟨pb,0,none⟩ (.slice va vn vc)).heap[k]?=w5.heap[k]?:=λk hk h1 h2=>(N4 _ _ _ _ h2).trans (az.block k hk (λe=>h1 e.symm))
  refine⟨⟨ab.mod hm (λk hk h=>?_),?_,?_,?_,?_,_,a2.set _,?_,?_⟩,jm.of_mod hm (λk hk hX h=>?_)⟩
  ·rcases h with h|h
   ·exact .inl h
   rcases(aa.out k h).2.2.2.2 with h2|h2
   ·exact .inr (.inr h2)
   omega
  ·exact(bg.call ah).kept (bn _ (bg.call ah).lt (λe=>(by have:=(aa.out _ e).2.2.2.2;have:=ab.2.size;omega)) (by omega))
  ·have:=(N6.1 a5).1;omega
  ·intro y hy
   rw [List.take_add_one,a5] at hy
   rcases List.mem_append.1 hy with h|h
   ·exact ak y h
   simp at h;rw [h];exact hr
  ·exact(ae.call ah).kept (bn _ (ae.call ah).lt (λe=>(aa.out _ e).2.1 rfl) (by omega))
  ·rw [bb.out,zb1,N1,bf.out]
   exact Row.kept (w:=w6) aq (λg hg=>N4 _ _ _ _ (show g≠pb from λe=>by
    rw [hg] at ac
    rcases ac with h|h
    ·exact(aa.out g h.symm).1 e
    have:=aw.lt;simp at h;omega))
  ·intro g hg
   rw [hg] at ac
   rcases ac with h|h
   ·exact⟨(aa.out g h.symm).2.2.2.2,(aa.out g h.symm).2.2.2.1⟩
   simp at h
   have h1:=ab.2.size;have h2:=ah.size;exact⟨.inr (by omega),λhX=>by have:=(ab.1 g hX).2;omega⟩
  have:=ab.1 k hX
  rcases h with h|h
  ·omega
  exact(aa.out k h).2.2.2.1 hX
 case done=>
  rintro D k X W hD bz be⟨ab,bg,hk,ak,ae,pv,a3,an,hn⟩ ad;obtain rfl:k=l.length:=be;rw [List.take_length] at ak an;have ay:l.all zz=true:=List.all_eq_true.2 ak;have hp:yj l=([UInt8.ofNat (l.length % 256)] ++l.flatMap jk,0):=by unfold yj;rw [if_neg h64,if_pos ay]
  have bi:zaP (jM l.length l) (jM l.length l).length<=1073741824:=by
   unfold zaP;rw [List.take_length,JF];have:=ZR l ak;simp only [N1,U2];omega
  have bk:(jM l.length l).length<=1000000:=by
   have h2:=Vy l;simp only [jM,List.length_cons,h2];omega
  have hj:=zdH pv (jM l.length l) W an.src (by simp [jM]) bk bi;rw [JF] at hj;have er:=ae.cell;have ep:=a3.cell;have a0:Below w.heap.size w W:=a1.trans (ab.below (by omega) (λk h=>by omega));replace hp:=hid hp;clear ay bi bk ak;replace hj:=hid hj
  go_wp2_with (go_at_call 135;refine hj.out.mono ?_;rintro e w2 ⟨rfl,aj⟩)
  rw [Exit.noGoto_ret];refine jl (D:=D) (v:=.tuple #[.string (bs ([UInt8.ofNat (l.length % 256)] ++l.flatMap jk)),.int .i64 0]) ((aj.block D (N5.1 ad).1).trans ad) (by simp [results,Tryz.results92,go_sem]) ⟨by rw [hp.out],zS (a0.trans (aj.mono a0.size)) (by omega) _⟩
 case stop=>
  rintro D c X W hD bz⟨rfl,hx,ab,ae⟩ ad
  have hp:yj l=([],100):=by
   obtain⟨x,br,b0⟩:=hx;have:¬l.all zz=true:=λh=>by have:=List.all_eq_true.1 h x br;rw [b0] at this;cases this
   unfold yj;rw [if_neg h64,if_neg this]
  have er:=ae.cell;have a0:Below w.heap.size w W:=a1.trans (ab.below (by omega) (λk h=>by omega));replace hp:=hid hp;clear hx;go_wp2;rw [Exit.noGoto_ret];refine jl (D:=D) (v:=.tuple #[.string (bs []),.int .i64 100]) ad (by simp [results,Tryz.results92,go_sem,bs]) ⟨by rw [hp.out],zS a0 (by omega) _⟩
def ZS(e:jz)(mv:Value):Value:=.agg #[.int .i64 e.kind,.int .u32 e.epoch,.int .i64 e.ver,mv]
abbrev qO(w:World)(mv:Value)(l:List zx):Prop:=Src w mv 3 l.length (l.flatMap zh)
theorem Src.shape {w:World}{v:Value}{size n:Nat}{xs:List Value}(h:Src w v size n xs):∃a c,v=.slice a n c:=by
 rcases h.2 with⟨rfl,rfl⟩|⟨b,off,cap,rfl, -⟩
 ·exact⟨_,_,rfl⟩
 exact⟨_,_,rfl⟩
theorem zfK(e:jz)(mv:Value)(w:World)(hm:qO w mv e.msgs):Calls prog 236 #[ZS e mv] w λr w'=>r=.returned (.bool (qg e))/\Below w.heap.size w w':=by
 obtain⟨kind,epoch,ver,msgs⟩:=e;obtain⟨a,c,rfl⟩:=hm.shape;clear hm;obtain⟨R,hR⟩:∃R,qg ⟨kind,epoch,ver,msgs⟩=R:=⟨_,rfl⟩;rw [hR];unfold qg at hR;unfold ZS;simp only at hR⊢
 by_cases h1:kind=1
 ·rw [if_pos h1] at hR
  subst h1;subst hR;have t1:(ver==0)=decide (ver=0):=rfl
  go_enter func236,ntmps236
  go_wp2;go_ret
  exact⟨by rw [← t1];rfl,pbx⟩
 have t1:(kind==1)=false:=by simpa using h1
 rw [if_neg h1] at hR
 by_cases h2:kind=2
 ·rw [if_pos h2] at hR
  subst h2
  by_cases hl:msgs.length=0
  ·have t2:((msgs.length:Int)==0)=true:=by rw [hl];rfl
   by_cases hv0:0<=ver
   ·have t3:decide (0<=ver)=true:=by simpa using hv0
    by_cases hv1:ver<=255
    have t4:decide (ver<=255)=true:=by simpa using hv1
    have hr:R=true:=by rw [← hR];simp [hl,hv0,hv1]
    rotate_left
    have t4:decide (ver<=255)=false:=by simpa using hv1
    have hr:R=false:=by rw [← hR];simp [hv1]
    all_goals
     subst hr;clear hR hl hv0 hv1 h1 t1
     go_enter func236,ntmps236
     go_wp2;go_ret
     exact⟨rfl,pbx⟩
   have t3:decide (0<=ver)=false:=by simpa using hv0
   have hr:R=false:=by rw [← hR];simp [hv0]
   subst hr;clear hR hl hv0 h1 t1
   go_enter func236,ntmps236
   go_wp2;go_ret
   exact⟨rfl,pbx⟩
  have t2:((msgs.length:Int)==0)=false:=by simp;intro h;exact hl (by simp [h])
  have hr:R=false:=by rw [← hR];simp [hl]
  subst hr;clear hR hl h1 t1
  go_enter func236,ntmps236
  go_wp2;go_ret
  exact⟨rfl,pbx⟩
 have t2:(kind==2)=false:=by simpa using h2
 rw [if_neg h2] at hR
 by_cases h3:kind=3
 ·rw [if_pos h3] at hR
  subst h3
  by_cases hl:msgs.length=0
  have t3:((msgs.length:Int)==0)=true:=by rw [hl];rfl
  have hr:R=(ver==0):=by rw [← hR];simp [hl];rfl
  rotate_left
  have t3:((msgs.length:Int)==0)=false:=by simp;intro h;exact hl (by simp [h])
  have hr:R=false:=by rw [← hR];simp [hl]
  all_goals
   subst hr;clear hR hl h1 h2 t1 t2
   go_enter func236,ntmps236
   go_wp2;go_ret
   exact⟨rfl,pbx⟩
 have t3:(kind==3)=false:=by simpa using h3
 rw [if_neg h3] at hR;subst hR;clear h1 h2 h3
 go_enter func236,ntmps236
 go_wp2;go_ret
 exact⟨rfl,pbx⟩
theorem zb2(n:Int)(w:World):Calls prog 238 #[.int .i64 n] w λr w'=>r=.returned (.string (bs [UInt8.ofNat (n % 256).toNat]))/\Below w.heap.size w w':=by
 have aa:=run_convert_bytes_arg (P:=prog) (w.alloc (.cells #[.int .u8 (n % 256)] 5)) 49 5 Tryz.underlying49 Tryz.underlying5 w.heap.size 0 1 1 [n % 256] rfl (λi hi=>by obtain rfl:i=0:=(by omega);simp) 9 Tryz.underlying9
 have hs:strOfNums [n % 256]=bs [UInt8.ofNat (n % 256).toNat]:=by
  unfold strOfNums bs;simp
 rw [hs] at aa;clear hs
 go_enter func238,ntmps238
 go_wp2;go_ret
 exact⟨rfl,pbx⟩
theorem zme(a b c d:List UInt8):Lib.join [a,b,c,d] []=a++b++c++d:=by simp [Lib.join,List.intercalate]
theorem zdL(bk:Nat)(x y z u:List UInt8)(w:World)(hk:Blk w bk #[.string (bs x),.string (bs y),.string (bs z),.string (bs u)] 9)(hl:(x++y++z++u).length<=140737488355328):
 Calls prog 237 #[.slice (some ⟨bk,0,none⟩) 4 4] w λe w'=>e=.returned (.string (bs (x++y++z++u)))/\Below w.heap.size w w':=by
 have hj:=Tryz.strings_Join bk 0 4 [bs x,bs y,bs z,bs u] ⟨#[]⟩ w (λj t hz=>by
  have hc:=hk.cell j;rw [Nat.zero_add,hc];obtain rfl|rfl|rfl|rfl|h:j=0∨j=1∨j=2∨j=3∨4<=j:=by omega
  ·simp at hz;subst hz;rfl
  ·simp at hz;subst hz;rfl
  ·simp at hz;subst hz;rfl
  ·simp at hz;subst hz;rfl
  rw [List.getElem?_eq_none (by simpa using h)] at hz;cases hz) hk.lt (by simp) (by simp) (by
  simp only [List.map_cons,List.map_nil,xE]
  rw [zme];omega)
 simp only [List.map_cons,List.map_nil,xE] at hj;rw [zme] at hj;replace hj:=hid hj;clear hk hl
 go_enter func237,ntmps237
 go_wp2_with (go_at_call 138;refine hj.out.mono ?_;rintro e w' ⟨rfl,hb⟩)
 go_ret
 exact⟨by simp [bs],hb⟩
theorem zhC(l:List zx):(yj l).1.length<=65000:=by
 unfold yj
 split
 ·simp
 split
 ·rename_i h1 h2
  have:=ZR l (List.all_eq_true.1 h2);simp only [N1,U2];omega
 simp
theorem Y7(e:jz)(mv:Value)(w:World)(hm:qO w mv e.msgs)(hl:e.msgs.length<=1073741824):Calls prog 185 #[ZS e mv] w λr w'=>
 r=.returned (.tuple #[.string (bs (ju e).1),.int .i64 (ju e).2])/\Below w.heap.size w w':=by
 obtain⟨R,hR⟩:∃R,ju e=R:=⟨_,rfl⟩;rw [hR];unfold ju at hR;have aa:=zfK e mv;have ad:=zeZ mv e.msgs;unfold ZS at aa⊢;replace aa:=hid aa;replace ad:=hid ad;replace hm:=hid hm
 cases h1:qg e
 ·rw [if_pos h1] at hR
  subst hR
  go_enter func185,ntmps185
  go_wp2_with (go_at_call 236;refine(aa.out _ (hm.out.below (pbx))).mono ?_;rintro r w1 ⟨rfl,ac⟩;rw [h1])
  go_ret2
  exact⟨rfl,pbx⟩
 rw [if_neg (by simp [h1])] at hR
 by_cases hp0:(yj e.msgs).2=0
 ·rw [if_neg (by simpa using hp0)] at hR
  have t2:((yj e.msgs).2 !=0)=false:=by simpa using hp0
  clear hp0
  go_enter func185,ntmps185
  go_wp2_with (first
   |(go_at_call 236;refine(aa.out _ (hm.out.below (pbx))).mono ?_;rintro r w1 ⟨rfl,ac⟩;rw [h1]
     have kb:Blk w1 w.heap.size #[.int .i64 e.kind,.int .u32 e.epoch,.int .i64 e.ver,mv] 241:=Blk.call (bkx) ac
     have ke:=kb.cell)
   |(go_at_call 92;refine(ad.out _ (hm.out.below (pbx)) hl).mono ?_;rintro r w2 ⟨rfl,aj⟩))
  have k2:=(kb.call aj).drew;have ak:Below w.heap.size w w2.drew:=pbx;clear ke t2 kb
  generalize hpp:(yj e.msgs).1=pp at*
  replace hpp:=hid hpp;refine zd [O 0,O 1,O 3,O 4,O 6,O 7,O 9,E 2,E 5,E 8,E 10,E 11,O 12] none (λw'=>Blk w' w.heap.size #[.int .i64 e.kind,.int .u32 e.epoch,.int .i64 e.ver,mv] 241/\True) (by kernel_rfl) (by kernel_rfl) ⟨k2,trivial⟩ ?_
  refine Wd ?_
  refine zc rfl (λK hK=>?_)
  go_wp2_with (go_at_call 238;refine(zb2 _ _).mono ?_;rintro r w3 ⟨rfl,af⟩)
  have k3:=k2.call af;refine hK.out _ _ (λ_=>⟨k3,trivial⟩) ?_;clear hK K;refine zc rfl (λK hK=>?_)
  go_wp2_with (go_at_call 134;refine(yT _ _).mono ?_;rintro r w4 ⟨rfl,ai⟩)
  have k4:=k3.call ai;refine hK.out _ _ (λ_=>⟨k4,trivial⟩) ?_;clear hK K;refine zc rfl (λK hK=>?_)
  go_wp2_with (go_at_call 238;refine(zb2 _ _).mono ?_;rintro r w5 ⟨rfl,ah⟩)
  have k5:=k4.call ah;refine hK.out _ _ (λ_=>⟨k5,trivial⟩) ?_;clear hK K;refine zc rfl (λK hK=>?_);go_wp2;have k6:=k5.alloc (.cells #[.string (bs [UInt8.ofNat (e.kind % 256).toNat]),.string (bs (le4 e.epoch)),.string (bs [UInt8.ofNat (e.ver % 256).toNat]),.string (bs pp)] 9);refine hK.out _ _ (λ_=>⟨k6,trivial⟩) ?_;clear hK K;refine zc rfl (λK hK=>?_)
  go_wp2_with (go_at_call 237;refine(zdL _ _ _ _ _ _ (Blk.new rfl) ?_).mono ?_)
  ·have:=zhC e.msgs
   rw [hpp.out] at this;simp only [N1,U2,zY];omega
  rintro r w6⟨rfl,ag⟩
  generalize([UInt8.ofNat (e.kind % 256).toNat] ++le4 e.epoch++ [UInt8.ofNat (e.ver % 256).toNat] ++pp)=full at*
  have ae:=zI full;go_wp2;refine hK.out _ _ (λ_=>⟨k6.call ag,trivial⟩) ?_;clear hK K
  refine Wd ?_
  refine zg ?_;have ab:Below w.heap.size w w6:=ze (zi (ze (ze (ze ak af) ai) ah) _) ag;clear ag ah ai af k2 k3 k4 k5 k6
  by_cases hlen:4000<full.length
  ·rw [if_pos hlen] at hR
   subst hR;have t4:decide (4000<((bs full).size:Int))=true:=by rw [ae];simp;omega
   clear hlen ae;go_wp2;go_ret2
   exact⟨rfl,ab⟩
  rw [if_neg hlen] at hR
  subst hR;have t4:decide (4000<((bs full).size:Int))=false:=by rw [ae];simp;omega
  clear hlen ae;go_wp2;go_ret2
  exact⟨rfl,ab⟩
 rw [if_pos hp0] at hR
 subst hR;have t2:((yj e.msgs).2 !=0)=true:=by simpa using hp0
 clear hp0
 go_enter func185,ntmps185
 go_wp2_with (first
  |(go_at_call 236;refine(aa.out _ (hm.out.below (pbx))).mono ?_;rintro r w1 ⟨rfl,ac⟩;rw [h1]
    have kb:Blk w1 w.heap.size #[.int .i64 e.kind,.int .u32 e.epoch,.int .i64 e.ver,mv] 241:=Blk.call (bkx) ac
    have ke:=kb.cell)
  |(go_at_call 92;refine(ad.out _ (hm.out.below (pbx)) hl).mono ?_;rintro r w2 ⟨rfl,aj⟩))
 go_ret2
 exact⟨rfl,pbx⟩
theorem zjK(e:jz):JB e=((ju e).2==0):=rfl
theorem zfL(e:jz)(mv:Value)(w:World)(hm:qO w mv e.msgs)(hl:e.msgs.length<=1073741824):Calls prog 307 #[ZS e mv] w λr w'=>
 r=.returned (.bool (JB e))/\Below w.heap.size w w':=by
 rw [zjK];have aa:=Y7 e mv;unfold ZS at aa⊢;replace aa:=hid aa;replace hm:=hid hm
 go_enter func307,ntmps307
 go_wp2_with (go_at_call 185;refine(aa.out _ (hm.out.below (pbx)) hl).mono ?_;rintro r w1 ⟨rfl,ab⟩)
 go_ret
 exact⟨rfl,pbx⟩
end
open Go
theorem Y8 {V:Type}(k:MId):∀(l:List (MId×V)),(del k l).length<=l.length
 | []=>N0 _
 |(k',v')::l=>by
  have ih:=Y8 k l;unfold del
  split
  ·simp
  simp;exact ih
theorem zaQ {V:Type}{k:MId}{v:V} :∀ {l:List (MId×V)},zH k l=some v->(del k l).length+1=l.length
 | [],h=>by cases h
 |(k',v')::l,h=>by
  by_cases hk:k=k'
  ·simp [del,hk]
  have h':zH k l=some v:=by simpa [zH,hk] using h
  have ih:=zaQ h';simp [del,hk]
  exact ih
theorem Vz:∀(n m:Nat)(ws:List (MId×zx)) (x:zx),zdy ws->(del x.1 ws).length<=n->(del x.1 ws).length<=m->zT n ws x=zT m ws x
 |0,0,ws,x,_,_,_=>rfl
 |0,m+1,ws,x,hw,h0,hm=>by
  have hn:del x.1 ws=[]:=N9 (by omega);simp [zT,hn,zH]
 |n+1,0,ws,x,hw,h0,hm=>by
  have hn:del x.1 ws=[]:=N9 (by omega);simp [zT,hn,zH]
 |n+1,m+1,ws,x,hw,h0,hm=>by
  unfold zT
  cases hl:zH (x.1.1,(x.1.2+1)% 4294967296) (del x.1 ws)with
  |none=>rfl
  |some y=>
   have hy:y.1=(x.1.1,(x.1.2+1)% 4294967296):=((hw.del x.1) _ (xQ hl)).1;have hlen:=zaQ hl;rw [← hy] at hlen;have:=Vz n m (del x.1 ws) y (hw.del x.1) (by omega) (by omega);simp only [this]
def QZ(s:List (MId×zx)×Option zx):List zx:=match s.2 with|none=>[] |some x=>(zT s.1.length s.1 x).2
def zb3(s:List (MId×zx)×Option zx):List (MId×zx):=match s.2 with|none=>s.1|some x=>(zT s.1.length s.1 x).1
def zaR(ws:List (MId×zx))(x:zx):List (MId×zx)×Option zx:=(del x.1 ws,zH (x.1.1,(x.1.2+1)% 4294967296) (del x.1 ws))
theorem zjL {ws:List (MId×zx)}{x:zx}(hw:zdy ws):QZ (ws,some x)=x::QZ (zaR ws x)/\zb3 (ws,some x)=zb3 (zaR ws x):=by
 have ab:=Y8 x.1 ws
 show(zT ws.length ws x).2=_/\(zT ws.length ws x).1=_
 unfold zaR
 cases hl:zH (x.1.1,(x.1.2+1)% 4294967296) (del x.1 ws)with
 |none=>
  cases hn:ws.length with
  |zero=>exact⟨rfl,rfl⟩
  |succ n=>simp [zT,hl,QZ,zb3]
 |some y=>
  have hy:y.1=(x.1.1,(x.1.2+1)% 4294967296):=((hw.del x.1) _ (xQ hl)).1;have aa:=zaQ hl;rw [← hy] at aa
  cases hn:ws.length with
  |zero=>omega
  |succ n=>
   have:=Vz n (del x.1 ws).length (del x.1 ws) y (hw.del x.1) (by omega) (by omega);simp [zT,hl,QZ,zb3,this]
theorem zfM {ws:List (MId×zx)}{x y:zx}(hw:zdy ws)(h:(zaR ws x).2=some y):y.1.1=x.1.1/\zz y=true:=by
 have h1:=(hw.del x.1) _ (xQ h);exact⟨by rw [h1.1],h1.2⟩
theorem Y9:∀(n:Nat)(ws:List (MId×zx)) (x:zx),zdy ws->zz x=true->zdy (zT n ws x).1/\∀y∈(zT n ws x).2,zz y=true
 |0,ws,x,hw,hx=>⟨hw.del _,by simp [zT,hx]⟩
 |n+1,ws,x,hw,hx=>by
  unfold zT
  cases hl:zH (x.1.1,(x.1.2+1)% 4294967296) (del x.1 ws)with
  |none=>exact⟨hw.del _,by simp [hx]⟩
  |some y=>
   have hy:=((hw.del x.1) _ (xQ hl)).2;have ih:=Y9 n (del x.1 ws) y (hw.del _) hy;exact⟨ih.1,by simpa [hx] using ih.2⟩
theorem Q0:∀(l:List zx)(tk:List Nat),(∀n∈tk,n<=4294967294)->(∀y∈l,zz y=true)->∀n∈vR tk l,n<=4294967294
 | [],tk,h,_=>h
 |x::l,tk,h,hl=>by
  show∀n∈vR (tk.set x.1.1.toNat x.1.2) l,n<=4294967294
  refine Q0 l _ (λn hn=>?_) (λy hy=>hl y (U7 _ hy))
  rcases List.mem_or_eq_of_mem_set hn with h1|h1
  ·exact h n h1
  have:=hl x (List.mem_cons_self ..)
  simp [zz] at this
  omega
theorem vT(tk:List Nat)(l:List zx):(vR tk l).length=tk.length:=by
 unfold vR
 induction l generalizing tk with
 |nil=>rfl
 |cons x l ih=>rw [List.foldl_cons,ih];simp
theorem zfN(tk:List Nat)(l:List zx)(x:zx):vR tk (l++ [x])=(vR tk l).set x.1.1.toNat x.1.2:=by
 simp [vR,List.foldl_append]
theorem JO:∀(n:Nat)(ws:List (MId×zx)) (x:zx),(zT n ws x).2.length<=n+1
 |0,ws,x=>by simp [zT]
 |n+1,ws,x=>by
  unfold zT
  cases zH (x.1.1,(x.1.2+1)% 4294967296) (del x.1 ws)with
  |none=>simp
  |some y=>have:=JO n (del x.1 ws) y;simp;omega
theorem v8.row {b:vF}(h:v8 b){m:zx}(hm:zz m=true)(n:Nat):v8 {tk:=vR b.tk (zT n b.ws m).2,log:=b.log++(zT n b.ws m).2,ws:=(zT n b.ws m).1} :=
 ⟨by rw [vT];exact h.sixteen,Q0 _ _ h.most (Y9 n b.ws m h.keys hm).2,(Y9 n b.ws m h.keys hm).1⟩
