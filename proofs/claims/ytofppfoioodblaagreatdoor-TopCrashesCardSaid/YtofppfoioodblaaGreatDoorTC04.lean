/- PARTS OF THE PROOF. -/
import Derived.Deep.Slices
import Derived.Deep.Fields
import Derived.ChangeSame
import Derived.Test.YtofppfoioodblaaGreatDoorTC03
set_option maxRecDepth 8000
set_option maxHeartbeats 4000000
open Go.Proofs.Tryz
namespace Go.Proofs.YtofppfoioodblaaGreatDoor
section
open Go Go.RowKit Go.Shelf Go.Extern.Stop Go.Stop Go.Extern
attribute [local go_sem] Oper.semAt_some zB zp
theorem xh.wait {b:vL}(h:xh b){m:zA}(hm:zx m=true):xh {b with ws:=put m.1 m b.ws} :=by
 refine⟨h.sixteen,h.most,?_⟩;intro p hp;have hk:=h.keys
 generalize b.ws=l at hp hk
 have aa:p∈put m.1 m l:=hp;clear hp
 induction l with
 |nil=>simp [put] at aa;subst aa;exact⟨rfl,hm⟩
 |cons q l ih=>
  obtain⟨k,v⟩:=q;unfold put at aa
  split at aa
  ·rcases List.mem_cons.1 aa with rfl|h1
   ·exact⟨rfl,hm⟩
   exact hk p (U7 _ h1)
  rcases List.mem_cons.1 aa with rfl|h1
  ·exact hk _ (List.mem_cons_self ..)
  exact ih (λq hq=>hk q (U7 _ hq)) h1
theorem QQ(mb:Nat)(w:World):(binOp .eql 138 (.map (some mb)) (.map none)).run prog w=.ok (.bool false) w:=by kernel_rfl
theorem zjJ(B:Nat)(b:vL)(t:List Nat)(ow:Own)(m:zA)(hm:zx m=true)(w:World)(hb:j2 B b t ow w):Calls prog 362 #[.pointer (some ⟨B,0,none⟩),y7 m] w λe w'=>
 e=.returned (.tuple #[])/\∃ow',zt t ow w ow' w'/\j2 B (if zhA b m.1 then b else {b with ws:=put m.1 m b.ws}) t ow' w':=by
 obtain⟨⟨i,c⟩,d⟩:=m;have ac:=hb;obtain⟨af,lv,mb,hB,hR,hM,o1,o2,o3⟩:=hb;have ah:=QQ mb
 cases hh:zhA b (i,c)
 ·unfold y7
  go_enter func362,ntmps362
  go_wp2_with (first
   |(go_at_call 365;refine(zhC B b t ow _ _ _ ((j2.loc B b t).below ac (pbx))).mono ?_;rintro e w1 ⟨rfl,ad⟩
     have k0:Blk w1 w.heap.size #[.int .i64 i,.int .u32 c,.string (bs d)] 78:=Blk.call (bkx) ad;have aa:Below w.heap.size w w1:=pbx;have c0:=k0.cell;have cB:w1.cell? ⟨B,17,none⟩=some (.map (some mb)):=((hB.call aa).cell 17).trans (xT b.tk lv mb af.sixteen);have ai:z6 w1.drew mb idV (b.ws.map λp=>(p.1,y7 p.2)):=hM.kept (aa.block mb hM.lt);obtain⟨o,aj,ag⟩:=ai.update VK Tryz.underlying138 (i,c) (.agg #[.int .i64 i,.int .u32 c,.string (bs d)])
     unfold idV at aj))
  go_region
  go_wp2;go_end0
  refine⟨rfl,ow,(zt.of_below t ow (zq aa)).trans (zt.putObj _ mb o (by rw [o2];exact Sub.rfl' t)),af.wait hm,lv,mb,(hB.call aa).drew.putObj (hB.ne_map hM) o,?_,?_,o1,o2,o3⟩
  ·exact hR.kept (λg hg=>(U1 (hR.ne_map hM hg)).trans (aa.block g (hR.lt hg)))
  have ae:z6 (w1.drew.putObj mb o) mb idV (put (i,c) (y7 ((i,c),d)) (b.ws.map λp=>(p.1,y7 p.2))):=ag
  rw [JD y7] at ae;exact ae
 unfold y7
 go_enter func362,ntmps362
 go_wp2_with (go_at_call 365;refine(zhC B b t ow _ _ _ ((j2.loc B b t).below ac (pbx))).mono ?_;rintro e w1 ⟨rfl,ad⟩)
 refine bodyPost_ret (results_none rfl _ _ _) rfl ?_;have aa:Below w.heap.size w w1:=pbx;exact⟨rfl,ow,zt.of_below t ow aa,(j2.loc B b t).below ac aa⟩
theorem zbD:Yc prog 42 78 3 32 (.agg #[.int .i64 0,.int .u32 0,.string ⟨#[]⟩]):=⟨Tryz.underlying42,by kernel_rfl,rfl,by decide,by decide⟩
theorem jv(l:List zA):∀u∈l.flatMap zg,u.oneCell'=true:=by
 intro u hu;obtain⟨m,_,hm⟩:=List.mem_flatMap.1 hu;simp [zg] at hm
 rcases hm with rfl|rfl|rfl<;>rfl
theorem zbE(l:List zA):(l.flatMap zg).length=l.length*3:=by
 induction l with
 |nil=>rfl
 |cons m l ih=>simp [List.flatMap_cons,zg,ih];omega
theorem zbF(w:World):(binOp .eql 42 (.slice none 0 0) (.slice none 0 0)).run prog w=.ok (.bool true) w:=by kernel_rfl
theorem zdq(a:Addr)(n c:Nat)(w:World):(binOp .eql 42 (.slice (some a) n c) (.slice none 0 0)).run prog w=.ok (.bool false) w:=by kernel_rfl
theorem zeK(w:World)(e:TypeId)(size:Nat):Row (w.alloc (.cells #[] e)) e size (.slice (some ⟨w.heap.size,0,none⟩) 0 0) 0 []:=
 ⟨by simp,.inr ⟨w.heap.size,0,#[],rfl,Nat.zero_le _,World.alloc_heap_new w _,N0 _,Nat.zero_le _,by simp,by simp⟩⟩
theorem Xa(v:Value)(l:List zA)(w:World)(hv:Src w v 3 l.length (l.flatMap zg))(hb:l.length<=1073741824):Calls prog 38 #[v] w λe w'=>
 ∃v',e=.returned v'/\Row w' 78 3 v' l.length (l.flatMap zg)/\Below w.heap.size w w'/\(∀g,v'.ownBlock=some g->w.heap.size<=g):=by
 have af:=zbF w;have ai:=λa n c=>zdq a n c w
 have ae:=hv
 rcases hv.2 with⟨rfl,h0⟩|⟨b,off,cap,rfl,hc,hr⟩
 ·obtain rfl:l=[]:=N9 h0
  go_enter func38,ntmps38
  go_wp2;go_ret
  exact⟨_,rfl,z7 _ _ _,N2 _ _,by simp [Value.ownBlock]⟩
 clear hr hv
 replace ae:=hid ae;replace hb:=hid hb
 go_enter func38,ntmps38
 go_wp2_with (at_builtin
              obtain⟨v',w',ac,aa,ag,ad⟩:=zQ zbD (zeK w 78 3) (Src.below (Hid.out ae) ((N2 _ _).alloc (N0 _) _)) (jv l) (by have:=hb.out;omega) 42
              refine zw rfl _ _ _ rfl rfl rfl ac ?_)
 go_ret
 refine⟨_,rfl,by simpa using aa,((N2 _ _).alloc (N0 _) _).grown ag (by simp) (λk hk=>by simp [Value.ownBlock] at hk;omega),λg hg=>?_⟩;have ah:v'.ownBlock=some g:=hg
 rcases ad with h1|h1<;>rw [ah] at h1<;>simp [Value.ownBlock] at h1<;>omega
theorem zld(B:Nat)(m:zA)(w:World):Calls prog 363 #[.pointer (some ⟨B,0,none⟩),y7 m] w λe w'=>
 e=.returned (.func (.func 366) #[] #[.pointer (some ⟨w.heap.size+1,0,none⟩),.pointer (some ⟨w.heap.size,0,none⟩)])/\
 w'=(w.alloc (.cells #[.pointer (some ⟨B,0,none⟩)] 279)).alloc (.cells #[.int .i64 m.1.1,.int .u32 m.1.2,.string (bs m.2)] 78):=by
 unfold y7
 go_enter func363,ntmps363
 go_wp2;go_ret
 exact⟨rfl,rfl⟩
theorem xD {V:Type}{k:MId}{v:V} :∀ {l:List (MId×V)},zE k l=some v->(k,v)∈l
 | [],h=>by cases h
 |(k',v')::l,h=>by
  unfold zE at h
  split at h
  ·rename_i hk;cases h;subst hk;exact List.mem_cons_self ..
  exact U7 _ (xD h)
theorem zdr {V:Type}(k:MId):∀(l:List (MId×V)),∀p∈del k l,p∈l
 | [],p,h=>by cases h
 |(k',v')::l,p,h=>by
  unfold del at h
  split at h
  ·exact U7 _ h
  rcases List.mem_cons.1 h with rfl|h1
  ·exact List.mem_cons_self ..
  exact U7 _ (zdr k l p h1)
def zde(ws:List (MId×zA)):Prop:=∀p∈ws,p.2.1=p.1/\zx p.2=true
theorem zde.del {ws:List (MId×zA)}(h:zde ws)(k:MId):zde (del k ws):=λp hp=>h p (zdr k ws p hp)
def zjK:zA:=((0,0),[])
def Za(v:Value)(o:Nat)(w:World):Value:=match v with| .pointer (some a)=>(w.cell? ⟨a.block,o,none⟩).getD undef|_=>undef
def zle(p4 p5:Value)(wr:World):Nat:=match p5 with| .bool true=>4294967296 - (intOf (Za p4 1 wr)).toNat|_=>0
theorem zjL(bm bb B mb:Nat)(m:zA)(ws0:List (MId×zA))(hok0:zde ws0)(hm:zx m=true):
 Qr Fence.wide 2 prog 366 #[.pointer (some ⟨bm,0,none⟩),.pointer (some ⟨bb,0,none⟩)] (λx:zA=> #[y7 x])
  (λ(s:List (MId×zA)×Option zA) x=>s.2=some x/\zx x=true/\zde s.1) (λs x=>(del x.1 s.1,zE (x.1.1,(x.1.2+1)% 4294967296) (del x.1 s.1))) (λs=>s.2=none)
  (λs W=>Blk W bm #[.int .i64 m.1.1,.int .u32 m.1.2,.string (bs m.2)] 78/\W.cell? ⟨bb,0,none⟩=some (.pointer (some ⟨B,0,none⟩))/\W.cell? ⟨B,17,none⟩=some (.map (some mb))/\z6 W mb idV (s.1.map λp=>(p.1,y7 p.2))) (ws0,some m):=by
 intro l J Jx W hJ hJx hRd hY h0;obtain⟨r0,r1,r2,r3⟩:=hRd _ _ _ h0;have c0:=r0.cell;have f0:=r0.lt;have hF:Fence.wide.fn 366:=trivial;have an:Fence.wide.round=none:=rfl;refine callsIn_of_wp func366 rfl hF ?_ an;simp only [ntmps366,R8,Nat.reduceAdd,Nat.reduceSub]
 gi_wp2
 gi_loopw [4,5] (λp4 p5 wr=>∃(ws:List (MId×zA)) (o:Option zA) (X:Nat->Prop) (cb:Nat),p4=.pointer (some ⟨cb,0,none⟩)/\p5=.bool o.isSome/\
  Blk wr cb #[.int .i64 (o.getD zjK).1.1,.int .u32 ((o.getD zjK).1.2:Nat),.string (bs (o.getD zjK).2)] 78/\X cb/\zde ws/\zx (o.getD m)=true/\J (ws,o) X wr)
  (λp4 p5 wr=>zle p4 p5 wr)
 case atStart=>exact⟨ws0,some m,λk=>False∨k=W.heap.size,W.heap.size,rfl,rfl,Blk.new rfl,.inr rfl,hok0,hm,hJ.alloc (.cells #[.int .i64 m.1.1,.int .u32 m.1.2,.string (bs m.2)] 78) h0⟩
 case round=>
  clear r0 r1 r2 r3 c0 f0;obtain⟨ws,o,X,cb,rfl,rfl,af,hX,ae,aj,ak⟩:=hrel
  cases o with
  |none=>
   gi_wp2
   go_end0
   exact⟨⟨_,rfl⟩,.inl ⟨(ws,none),X,rfl,ak⟩⟩
  |some x=>
   obtain⟨⟨i,c⟩,d⟩:=x;have c0:=af.cell;simp only [Option.getD_some] at c0;obtain⟨fn,tmps,assign,body,hy,hR⟩:=hY (ws,some ((i,c),d)) ((i,c),d) X _ ak ⟨rfl,aj,ae⟩;unfold y7 at hy
   gi_wp2
   refine hR.mono ?_;rintro e W'(⟨rfl,ah,am⟩|⟨rfl,aq⟩)
   ·clear c0 hR hy
    obtain⟨-,r1,r2,r3⟩:=hRd _ _ _ ah;have ai:Blk W' cb #[.int .i64 i,.int .u32 c,.string (bs d)] 78:=af.kept (am.2 cb hX af.lt);have c0:=ai.cell;have g0:=ai.frozen;have ar:=ai.lt;have ad:(((c+1)% 4294967296:Nat):Int)=((c:Int)+1)% 4294967296:=by omega
    obtain⟨y,hy⟩:∃y,zE (i,(c+1)% 4294967296) (del (i,c) ws)=y:=⟨_,rfl⟩;have aa:=(r3.kept (w':=W'.drew) rfl).lookup_ok VK Tryz.underlying138 (zax W'.drew) (i,(c+1)% 4294967296);rw [xB,Option.isSome_map,hy] at aa;obtain⟨ym,ac⟩:∃ym,y.getD zjK=ym:=⟨_,rfl⟩;have al:Hid (∀z,y=some z->z.1=(i,(c+1)% 4294967296)):=λz hz=>((ae.del (i,c)) _ (xD (hy.trans hz))).1
    have ao:Hid (zx (y.getD m)=true):=by
     cases hyy:y with
     |none=>exact hm
     |some z=>exact((ae.del (i,c)) _ (xD (hy.trans hyy))).2
    replace hy:=hid hy;replace ac:=hid ac
    have hv:(y.map y7).getD (.agg #[.int .i64 0,.int .u32 0,.string ⟨#[]⟩])=.agg #[.int .i64 ym.1.1,.int .u32 ym.1.2,.string (bs ym.2)]:=by
     rw [← ac.out];cases y<;>rfl
    rw [hv] at aa;unfold idV at aa;rw [ad] at aa;have ag:=aa;rw [show((c:Int)+1)% 4294967296=IntKind.u32.wrap ((c:Int)+1)from(IntKind.wrap_u32 _).symm] at ag;clear hv r3
    gi_wp2
    refine wpIn_wide.2 ?_
    go_region
    gi_wp2
    go_roundw
    case rel=>
     refine⟨del (i,c) ws,y,λk=>X k∨k=W'.heap.size,W'.heap.size,rfl,rfl,?_,.inr rfl,ae.del _,ao.out,?_⟩
     ·rw [ac.out];exact(Blk.new (by simp)).drew
     rw [hy.out] at ah
     exact hJ _ _ _ _ _ ah (((((Mod.refl X W').thenSet hX _).thenSet hX _).thenSet hX _).thenAlloc _).thenDrew (λk hk=>by
      rcases hk with h|h
      ·exact .inl h
      right;subst h;simp)
    case measure=>
     have e1:Za (.pointer (some ⟨cb,0,none⟩)) 1 wr=.int .u32 (c:Int):=by
      show(wr.cell? ⟨cb,1,none⟩).getD undef=_
      rw [af.cell 1];rfl
     have au:c<=4294967294:=by
      have h1:zx ((i,c),d)=true:=aj;simp [zx] at h1;exact h1.2
     cases y with
     |none=>
      show 0<4294967296 - (intOf (Za (.pointer (some ⟨cb,0,none⟩)) 1 wr)).toNat
      rw [e1];simp only [intOf];omega
     |some z=>
      have hz:=al.out z rfl;have ap:ym=z:=ac.out.symm
      have e2:Za (.pointer (some ⟨W'.heap.size,0,none⟩)) 1 ((((W'.setCell ⟨cb,0,none⟩ (.int .i64 ym.1.1)).setCell ⟨cb,1,none⟩ (.int .u32 ym.1.2)).setCell ⟨cb,2,none⟩ (.string (bs ym.2))).alloc (.cells #[.int .i64 ym.1.1,.int .u32 ym.1.2,.string (bs ym.2)] 78)).drew=.int .u32 (ym.1.2:Int):=by
       have hk:Blk ((((W'.setCell ⟨cb,0,none⟩ (.int .i64 ym.1.1)).setCell ⟨cb,1,none⟩ (.int .u32 ym.1.2)).setCell ⟨cb,2,none⟩ (.string (bs ym.2))).alloc (.cells #[.int .i64 ym.1.1,.int .u32 ym.1.2,.string (bs ym.2)] 78)).drew W'.heap.size #[.int .i64 ym.1.1,.int .u32 ym.1.2,.string (bs ym.2)] 78:=(Blk.new (by simp)).drew
       show(World.cell? _ ⟨W'.heap.size,1,none⟩).getD undef=_
       rw [hk.cell 1];rfl
      show 4294967296 - (intOf (Za (.pointer (some ⟨W'.heap.size,0,none⟩)) 1 _)).toNat<4294967296 - (intOf (Za (.pointer (some ⟨cb,0,none⟩)) 1 wr)).toNat
      rw [e1,e2];simp only [intOf];rw [ap,hz];simp only;omega
   gi_wp2
   refine bodyPost_ret (results_none rfl _ _ _) rfl ?_;exact⟨⟨_,rfl⟩,.inr ⟨_,aq⟩⟩
end
section
open Go Go.RowKit Go.Shelf Go.Extern.Stop Go.Stop Go.Extern Go.Lib
attribute [local go_sem] Oper.semAt_some zB zp
def Z2(m:zA):List (List UInt8):=[[UInt8.ofNat (m.1.1 % 256).toNat],le4 m.1.2,le4 m.2.length,m.2]
def jW(n:Nat)(l:List zA):List (List UInt8):=[UInt8.ofNat (n % 256)]::l.flatMap Z2
theorem Jw(n:Nat)(l:List zA):(jW n l).flatten=[UInt8.ofNat (n % 256)] ++l.flatMap jr:=by
 unfold jW;rw [List.flatten_cons]
 congr 1
 induction l with
 |nil=>rfl
 |cons m l ih=>simp [List.flatMap_cons,Z2,jr,ih]
theorem Vl(a b:List (List UInt8)):yR (a++b)=yR a++yR b:=by simp [yR]
theorem Vm(l:List zA):(l.flatMap Z2).length=4*l.length:=by
 induction l with
 |nil=>rfl
 |cons y ll ih=>rw [List.flatMap_cons,N1,ih];simp [Z2];omega
theorem ZF:∀(l:List zA),(∀x∈l,zx x=true)->(l.flatMap jr).length<=1009*l.length
 | [],_=>by simp
 |m::l,h=>by
  have ih:=ZF l (λx hx=>h x (U7 _ hx));have hm:=h m (List.mem_cons_self ..);simp [zx] at hm
  rw [List.flatMap_cons,N1,List.length_cons];have:(jr m).length=9+m.2.length:=by simp [jr,jd];omega
  omega
def zeL(l:List zA)(n pb rb cb:Nat)(v:Value)(W0:World)(k:Nat)(X:Nat->Prop)(W:World):Prop:=
 Fr (λk=>k=pb∨k=rb∨k+1=pb) W0 X W/\Blk W cb #[v] 42/\k<=l.length/\(∀x∈l.take k,zx x=true)/\
  Blk W rb #[.bool true] 4/\∃pv,Blk W pb #[pv] 107/\Row W 9 1 pv (jW n (l.take k)).length (yR (jW n (l.take k)))/\(∀g,pv.ownBlock=some g->(g+1=pb∨W0.heap.size<=g)/\¬X g)
theorem zeL.stab {l:List zA}{n pb rb cb:Nat}{v:Value}{W0:World}{k:Nat}{X X':Nat->Prop}{W W':World}(h1:pb<W0.heap.size)(h2:rb<W0.heap.size)(h3:cb<W0.heap.size)
 (h:zeL l n pb rb cb v W0 k X W) (hm:Mod X W W') (hx:∀k,X' k->X k∨(W.heap.size<=k/\k<W'.heap.size)):zeL l n pb rb cb v W0 k X' W':=by
 obtain⟨aa,kc,hk,hr,kr,pv,kp,kw,hn⟩:=h;refine⟨aa.step hm hx,kc.kept (aa.block hm h3),hk,hr,kr.kept (aa.block hm h2),pv,kp.kept (aa.block hm h1),kw.mod hm (λg hg=>(hn g hg).2),λg hg=>⟨(hn g hg).1,λhX=>?_⟩⟩
 rcases hx g hX with h|h
 ·exact(hn g hg).2 h
 have:=kw.lt hg;omega
theorem zeM(v:Value)(l:List zA)(w:World)(hv:Src w v 3 l.length (l.flatMap zg))(hl:l.length<=1073741824):Calls prog 92 #[v] w λe w'=>
 e=.returned (.tuple #[.string (bs (j0 l).1),.int .i64 (j0 l).2])/\Below w.heap.size w w':=by
 obtain⟨sa,sn,sc,rfl,rfl⟩:∃a n c,v=.slice a n c/\n=l.length:=by
  rcases hv.2 with⟨rfl,h⟩|⟨b,off,cap,rfl, -⟩
  ·exact⟨_,_,_,rfl,h.symm⟩
  exact⟨_,_,_,rfl,rfl⟩
 by_cases h64:64<l.length
 ·have hp:j0 l=([],101):=by unfold j0;rw [if_pos h64]
  have t0:decide (64<(l.length:Int))=true:=by simp;omega
  rw [hp];clear hp hv h64;refine zm func92 rfl ?_;simp only [ntmps92,R8,Nat.reduceAdd,Nat.reduceSub];go_wp2;go_step3;go_wp2;rw [Exit.noGoto_ret];exact jU (v:=.tuple #[.string (bs []),.int .i64 101]) (by simp [results,Tryz.results92,go_sem,bs]) ⟨rfl,pbx⟩
 have t0:decide (64<(l.length:Int))=false:=by simp;omega
 have a1:∀(W:World)(b:Nat)(n:Int),W.cell? ⟨b,0,none⟩=some (.int .u8 n)->(convert 49 9 (.slice (some ⟨b,0,none⟩) 1 1)).run prog W=.ok (.string (strOfNums [n])) W:=λW b n h=>
  run_convert_bytes_arg W 49 5 Tryz.underlying49 Tryz.underlying5 b 0 1 1 [n] rfl (λi hi=>by obtain rfl:i=0:=(by omega);exact h) 9 Tryz.underlying9
 have bc:=a1 (w.alloc (.cells #[.int .u8 (l.length:Int)] 5)) w.heap.size l.length (by simp);replace a1:=hid a1;replace hv:=hid hv;refine zm func92 rfl ?_;simp only [ntmps92,R8,Nat.reduceAdd,Nat.reduceSub];go_wp2;go_step3;go_wp2;go_step3
 go_wp2_with (go_at_call 133;refine(QN _ ⟨_,_,_,rfl⟩ _).mono ?_;rintro e w1 ⟨rfl,rfl⟩)
 obtain⟨W0,ai⟩:∃W0,W0=((((w.alloc (.cells #[.int .u8 (l.length:Int)] 5)).alloc (.cells #[.string (strOfNums [(l.length:Int)])] 9)).alloc (.cells #[.slice (some ⟨w.heap.size+1,0,none⟩) 1 1] 107)).alloc (.cells #[.bool true] 4)).alloc (.cells #[.slice sa l.length sc] 42):=⟨_,rfl⟩;rw [← ai];obtain⟨pb,ag⟩:∃pb,pb=w.heap.size+1+1:=⟨_,rfl⟩;rw [← ag];have b8:W0.heap.size=pb+3:=by rw [ai,ag];simp
 have a2:Below w.heap.size w W0:=by rw [ai];exact pbx
 have kp:Blk W0 pb #[.slice (some ⟨w.heap.size+1,0,none⟩) 1 1] 107:=by rw [ai];exact((Blk.new (by simp [ag])).alloc _).alloc _
 have kr:Blk W0 (pb+1) #[.bool true] 4:=by rw [ai];exact(Blk.new (by simp [ag])).alloc _
 have kc:Blk W0 (pb+1+1) #[.slice sa l.length sc] 42:=by rw [ai];exact Blk.new (by simp [ag])
 have bl:strOfNums [(l.length:Int)]=bs [UInt8.ofNat (l.length % 256)]:=by
  unfold strOfNums bs;rw [V0];simp
 have kw:Row W0 9 1 (.slice (some ⟨w.heap.size+1,0,none⟩) 1 1) (jW l.length (l.take 0)).length (yR (jW l.length (l.take 0))):=by
  have k1:Blk W0 (w.heap.size+1) #[.string (bs [UInt8.ofNat (l.length % 256)])] 9:=by rw [ai,bl];exact(((Blk.new (by simp)).alloc _).alloc _).alloc _
  exact⟨rfl,.inr ⟨w.heap.size+1,1,_,rfl,Nat.zero_le _,k1,N0 _,by decide,rfl,rfl⟩⟩
 have ca:=hv.out.below a2;have bn:w.heap.size+2<=pb:=by omega
 replace ag:=hid ag;clear bc bl
 refine yJ (gf:=174) (lb:=#[.pointer (some ⟨pb+1+1,0,none⟩)]) rfl (enters_of func174 (by kernel_rfl) rfl)
  (V7 (pb+1+1) (.slice sa l.length sc) l hl) (λ_=>rfl)
  (λk X W=>zeL l l.length pb (pb+1) (pb+1+1) (.slice sa l.length sc) W0 k X W)
  (λc X W=>c=.exit 0/\(∃x∈l,zx x=false)/\Fr (λk=>k=pb∨k=pb+1∨k+1=pb) W0 X W/\Blk W (pb+1) #[.bool false] 4)
  (λk X X' W W' h hm hx=>h.stab (by omega) (by omega) (by omega) hm hx)
  (λc s X X' W W' h hm hx=>⟨h.1,h.2.1,h.2.2.1.step hm hx,h.2.2.2.kept (h.2.2.1.block hm (by omega))⟩)
  (λk X W h=>⟨h.2.1,hv.out.below (a2.trans (h.1.below (by omega) (λk hk=>by omega)))⟩)
  (λk X W h=>⟨h.1.2.size,λk hk=>(h.1.1 k hk).2⟩)
  ⟨Fr.refl _ _,kc,Nat.zero_le _,by simp,kr,_,kp,kw,by intro g hg;simp [Value.ownBlock] at hg;subst hg;have:=ag.out;exact⟨.inl (by omega),id⟩⟩
  6 78 (λx=> #[.int .i64 x.1.1,.int .u32 x.1.2,.string (bs x.2)]) ?assign ?body ?done ?stop
 case assign=>
  intro l' x W K hK;rw [zW] at hK⊢;unfold y7 at hK⊢
  gi_wp2
  exact hK
 case body=>
  rintro l' k x cb X X1 W1 W h1 h a6 b3 b5 cc kx cd _;obtain⟨ac,a8,hk,al,af,pv,a4,au,hn⟩:=h;obtain⟨⟨i,c⟩,d⟩:=x;have e0:=kx.cell;simp only at e0;rw [zW];unfold y7;have lr:=af.lt;have lc:=kx.lt;have lp:=a4.lt
  cases hr:zx ((i,c),d)
  ·gi_wp2_with (gi_at_call 91;refine(inRound _ _ (vG _ _ _ _)).mono ?_;rintro e w1 ⟨rfl,aq⟩;have bd:=af.call aq;have er:=bd.cell;have fr:=bd.frozen;rw [hr])
   have hm:Mod (λk=>k=pb+1) W (w1.setCell ⟨pb+1,0,none⟩ (.bool false)):=(Mod.of_below (λk=>k=pb+1) aq).thenSet (p:=⟨pb+1,0,none⟩) rfl _;refine⟨⟨rfl,⟨((i,c),d),List.mem_of_getElem? a6,hr⟩,ac.mod hm (λk _ h=>.inr (.inl h)),bd.set _⟩,jJ.of_mod hm (λk _ hX he=>by have:=ac.1 k hX;omega)⟩
  obtain⟨xk,rfl,b7⟩:∃k:Nat,i=k/\k<16:=by
   have:=hr;simp [zx] at this
   exact⟨i.toNat,by omega,by omega⟩
  have b2:(xk:Int)<16:=by omega
  gi_wp2_with (gi_at_call 91
               refine(inRound _ _ (vG _ _ _ _)).mono ?_;rintro e w1⟨rfl,aq⟩;have bf:=kx.call aq;have ex:=bf.cell;have bv:=bf.lt;have a9:=a1.out (w1.alloc (.cells #[.int .u8 (xk:Int)] 5)) w1.heap.size xk (by simp)
               rw [hr])
  obtain⟨W2,ba⟩:∃W2,W2=w1.alloc (.cells #[.int .u8 (xk:Int)] 5):=⟨_,rfl⟩;rw [← ba];have ak:Below W.heap.size W W2:=by rw [ba];exact zi aq _
  have ax:=kx.call ak;have ao:=a4.call ak
  have b4:((bs d).size:Int)<=1000:=by
   have:=hr;simp [zx] at this
   rw [zL];omega
  clear ex a9 bv bf e0 ba;refine jQ [O 0,O 1,O 2,O 3,O 4,O 6,O 7,O 8,O 9,O 11,O 12,E 5,E 10,E 13,E 14,E 15] (some 15) (λw'=>Blk w' cb #[.int .i64 (xk:Int),.int .u32 (c:Int),.string (bs d)] 78/\Blk w' pb #[pv] 107/\True) ⟨ax.drew,ao.drew,trivial⟩ ?_
  refine Wd ?_
  replace ax:=ax.drew;replace ao:=ao.drew;refine zc rfl (λK hK=>?_)
  go_wp2_with (go_at_call 134;refine(y9 _ _).mono ?_;rintro e w3 ⟨rfl,az⟩)
  refine hK.out _ _ (λ_=>⟨ax.call az,ao.call az,trivial⟩) ?_;clear hK K;have bj:=ax.call az;have bo:=ao.call az;refine zc rfl (λK hK=>?_)
  go_wp2_with (go_at_call 134;refine(y9 _ _).mono ?_;rintro e w4 ⟨rfl,am⟩)
  refine hK.out _ _ (λ_=>⟨bj.call am,bo.call am,trivial⟩) ?_;clear hK K;have bt:=bj.call am;have b1:=bo.call am;refine zc rfl (λK hK=>?_);go_wp2;obtain⟨w5,aw⟩:∃w5,w5=w4.alloc (.cells #[.string (strOfNums [(xk:Int)]),.string (bs (le4 c)),.string (bs (le4 (bs d).size)),.string (bs d)] 9):=⟨_,rfl⟩;have k5:Blk w5 w4.heap.size #[.string (strOfNums [(xk:Int)]),.string (bs (le4 c)),.string (bs (le4 (bs d).size)),.string (bs d)] 9:=by rw [aw];exact Blk.new rfl
  have a3:=bt.alloc (.cells #[.string (strOfNums [(xk:Int)]),.string (bs (le4 c)),.string (bs (le4 (bs d).size)),.string (bs d)] 9);have ar:=b1.alloc (.cells #[.string (strOfNums [(xk:Int)]),.string (bs (le4 c)),.string (bs (le4 (bs d).size)),.string (bs d)] 9);rw [← aw] at a3 ar⊢;have ah:Below W.heap.size W w5:=by rw [aw];exact zi (zh (zh (zq ak) az) am) _
  have b6:w4.heap.size<w5.heap.size:=by rw [aw];simp
  refine hK.out _ _ (λ_=>⟨a3,ar,trivial⟩) ?_;clear hK K aw
  have bg:strOfNums [(xk:Int)]=bs [UInt8.ofNat ((xk:Int)% 256).toNat]:=by
   rw [zbv,V0];unfold strOfNums bs;simp
  have bh:=zL d;have be:yR (Z2 (((xk:Int),c),d))=[.string (strOfNums [(xk:Int)]),.string (bs (le4 c)),.string (bs (le4 (bs d).size)),.string (bs d)]:=by rw [bg,bh];rfl
  have aj:(jW l.length (l.take k)).length+4<=1073741824:=by
   have h1:(l.take k).length<=64:=by rw [N7];omega
   have h2:=Vm (l.take k);simp only [jW,List.length_cons,h2];omega
  have bb:jW l.length (l.take (k+1))=jW l.length (l.take k)++Z2 (((xk:Int),c),d):=by
   unfold jW;rw [List.take_add_one,a6];simp [List.flatMap_append]
  replace be:=hid be;replace bh:=hid bh;replace bg:=hid bg;replace bb:=hid bb;replace aj:=hid aj;refine zc rfl (λK hK=>?_);obtain⟨b9,w6,ay,an,a5,ad⟩:=zQ zmV (au.below ah) (jP (n:=4) (size:=1) (cap:=4) k5 rfl (N0 4)) (by simp only [List.mem_cons,List.mem_nil_iff,or_false];rintro u (rfl|rfl|rfl|rfl)<;>rfl) aj.out 107;refine zw rfl _ _ _ rfl rfl rfl ay ?_;unfold wpList;have aa:∀g,pv.ownBlock=some g->g≠pb/\g≠pb+1/\g≠cb/\¬X g/\(g+1=pb∨W0.heap.size<=g):=λg hg=>⟨by have:=(hn g hg).1;omega,by have:=(hn g hg).1;omega,au.ne_blk kx (by decide) hg,(hn g hg).2,(hn g hg).1⟩
  have bq:=a3.kept (a5.block cb a3.lt (λe=>(aa cb e.symm).2.2.1 rfl));have a0:=ar.kept (a5.block pb ar.lt (λe=>(aa pb e.symm).1 rfl));refine hK.out _ _ (λ_=>⟨bq,a0,trivial⟩) ?_;clear hK K ay;refine zc rfl (λK hK=>?_);obtain⟨va,vn,vc,rfl⟩:=an.shape;have bu:=a0.cell;have bz:=a0.frozen;replace aa:=hid aa;replace bn:=hid bn;go_wp2;refine hK.out _ _ (λh=>absurd rfl h) ?_;clear hK K bu bz;refine ze ?_
  have hm:Mod (λk=>k=pb∨pv.ownBlock=some k) W (w6.setCell ⟨pb,0,none⟩ (.slice va vn vc)):=
   ((Mod.of_below (λk=>k=pb∨pv.ownBlock=some k) ah).trans (Mod.grown a5 (λk h=>.inr h)) (λ_ _ e=>e) (λ_ _ e=>e)).thenSet (p:=⟨pb,0,none⟩) (.inl rfl) _
  have bm:∀k,k<w5.heap.size->pv.ownBlock≠some k->k≠pb->(w6.setCell ⟨pb,0,none⟩ (.slice va vn vc)).heap[k]?=w5.heap[k]?:=λk hk h1 h2=>(N4 _ _ _ _ h2).trans (a5.block k hk (λe=>h1 e.symm))
  refine⟨⟨ac.mod hm (λk hk h=>?_),?_,?_,?_,?_,_,a0.set _,?_,?_⟩,jJ.of_mod hm (λk hk hX h=>?_)⟩
  ·rcases h with h|h
   ·exact .inl h
   rcases(aa.out k h).2.2.2.2 with h2|h2
   ·exact .inr (.inr h2)
   omega
  ·exact(a8.call ah).kept (bm _ (a8.call ah).lt (λe=>(by have:=(aa.out _ e).2.2.2.2;have:=ac.2.size;omega)) (by omega))
  ·have:=(N6.1 a6).1;omega
  ·intro y hy
   rw [List.take_add_one,a6] at hy
   rcases List.mem_append.1 hy with h|h
   ·exact al y h
   simp at h;rw [h];exact hr
  ·exact(af.call ah).kept (bm _ (af.call ah).lt (λe=>(aa.out _ e).2.1 rfl) (by omega))
  ·rw [bb.out,Vl,N1,be.out]
   exact Row.kept (w:=w6) an (λg hg=>N4 _ _ _ _ (show g≠pb from λe=>by
    rw [hg] at ad
    rcases ad with h|h
    ·exact(aa.out g h.symm).1 e
    have:=ar.lt;simp at h;omega))
  ·intro g hg
   rw [hg] at ad
   rcases ad with h|h
   ·exact⟨(aa.out g h.symm).2.2.2.2,(aa.out g h.symm).2.2.2.1⟩
   simp at h
   have h1:=ac.2.size;have h2:=ah.size;exact⟨.inr (by omega),λhX=>by have:=(ac.1 g hX).2;omega⟩
  have:=ac.1 k hX
  rcases h with h|h
  ·omega
  exact(aa.out k h).2.2.2.1 hX
 case done=>
  rintro D k X W hD br bi⟨ac,a8,hk,al,af,pv,a4,au,hn⟩ ae;obtain rfl:k=l.length:=bi;rw [List.take_length] at al au;have ap:l.all zx=true:=List.all_eq_true.2 al;have hp:j0 l=([UInt8.ofNat (l.length % 256)] ++l.flatMap jr,0):=by unfold j0;rw [if_neg h64,if_pos ap]
  have bk:zay (jW l.length l) (jW l.length l).length<=1073741824:=by
   unfold zay;rw [List.take_length,Jw];have:=ZF l al;simp only [N1,U2];omega
  have bp:(jW l.length l).length<=1000000:=by
   have h2:=Vm l;simp only [jW,List.length_cons,h2];omega
  have hj:=zdp pv (jW l.length l) W au.src (by simp [jW]) bp bk;rw [Jw] at hj;have er:=af.cell;have ep:=a4.cell;have a7:Below w.heap.size w W:=a2.trans (ac.below (by omega) (λk h=>by omega));replace hp:=hid hp;clear ap bk bp al;replace hj:=hid hj
  go_wp2_with (go_at_call 135;refine hj.out.mono ?_;rintro e w2 ⟨rfl,ak⟩)
  rw [Exit.noGoto_ret];refine jb (D:=D) (v:=.tuple #[.string (bs ([UInt8.ofNat (l.length % 256)] ++l.flatMap jr)),.int .i64 0]) ((ak.block D (N5.1 ae).1).trans ae) (by simp [results,Tryz.results92,go_sem]) ⟨by rw [hp.out],zM (a7.trans (ak.mono a7.size)) (by omega) _⟩
 case stop=>
  rintro D c X W hD br⟨rfl,hx,ac,af⟩ ae
  have hp:j0 l=([],100):=by
   obtain⟨x,bw,b0⟩:=hx;have:¬l.all zx=true:=λh=>by have:=List.all_eq_true.1 h x bw;rw [b0] at this;cases this
   unfold j0;rw [if_neg h64,if_neg this]
  have er:=af.cell;have a7:Below w.heap.size w W:=a2.trans (ac.below (by omega) (λk h=>by omega));replace hp:=hid hp;clear hx;go_wp2;rw [Exit.noGoto_ret];refine jb (D:=D) (v:=.tuple #[.string (bs []),.int .i64 100]) ae (by simp [results,Tryz.results92,go_sem,bs]) ⟨by rw [hp.out],zM a7 (by omega) _⟩
def ZG(e:jH)(mv:Value):Value:=.agg #[.int .i64 e.kind,.int .u32 e.epoch,.int .i64 e.ver,mv]
abbrev qJ(w:World)(mv:Value)(l:List zA):Prop:=Src w mv 3 l.length (l.flatMap zg)
theorem Src.shape {w:World}{v:Value}{size n:Nat}{xs:List Value}(h:Src w v size n xs):∃a c,v=.slice a n c:=by
 rcases h.2 with⟨rfl,rfl⟩|⟨b,off,cap,rfl, -⟩
 ·exact⟨_,_,rfl⟩
 exact⟨_,_,rfl⟩
theorem zfJ(e:jH)(mv:Value)(w:World)(hm:qJ w mv e.msgs):Calls prog 236 #[ZG e mv] w λr w'=>r=.returned (.bool (qf e))/\Below w.heap.size w w':=by
 obtain⟨kind,epoch,ver,msgs⟩:=e;obtain⟨a,c,rfl⟩:=hm.shape;clear hm;obtain⟨R,hR⟩:∃R,qf ⟨kind,epoch,ver,msgs⟩=R:=⟨_,rfl⟩;rw [hR];unfold qf at hR;unfold ZG;simp only at hR⊢
 by_cases h1:kind=1
 ·rw [if_pos h1] at hR
  subst h1;subst hR;have t1:(ver==0)=decide (ver=0):=rfl
  go_enter func236,ntmps236
  go_wp2;go_ret
  exact⟨by rw [← t1];rfl,pbx⟩
 have t1:(kind==1)=false:=by simpa using h1
 rw [if_neg h1] at hR
 by_cases h2:kind=2
 ·rw [if_pos h2] at hR
  subst h2
  by_cases hl:msgs.length=0
  ·have t2:((msgs.length:Int)==0)=true:=by rw [hl];rfl
   by_cases hv0:0<=ver
   ·have t3:decide (0<=ver)=true:=by simpa using hv0
    by_cases hv1:ver<=255
    have t4:decide (ver<=255)=true:=by simpa using hv1
    have hr:R=true:=by rw [← hR];simp [hl,hv0,hv1]
    rotate_left
    have t4:decide (ver<=255)=false:=by simpa using hv1
    have hr:R=false:=by rw [← hR];simp [hv1]
    all_goals
     subst hr;clear hR hl hv0 hv1 h1 t1
     go_enter func236,ntmps236
     go_wp2;go_ret
     exact⟨rfl,pbx⟩
   have t3:decide (0<=ver)=false:=by simpa using hv0
   have hr:R=false:=by rw [← hR];simp [hv0]
   subst hr;clear hR hl hv0 h1 t1
   go_enter func236,ntmps236
   go_wp2;go_ret
   exact⟨rfl,pbx⟩
  have t2:((msgs.length:Int)==0)=false:=by simp;intro h;exact hl (by simp [h])
  have hr:R=false:=by rw [← hR];simp [hl]
  subst hr;clear hR hl h1 t1
  go_enter func236,ntmps236
  go_wp2;go_ret
  exact⟨rfl,pbx⟩
 have t2:(kind==2)=false:=by simpa using h2
 rw [if_neg h2] at hR
 by_cases h3:kind=3
 ·rw [if_pos h3] at hR
  subst h3
  by_cases hl:msgs.length=0
  have t3:((msgs.length:Int)==0)=true:=by rw [hl];rfl
  have hr:R=(ver==0):=by rw [← hR];simp [hl];rfl
  rotate_left
  have t3:((msgs.length:Int)==0)=false:=by simp;intro h;exact hl (by simp [h])
  have hr:R=false:=by rw [← hR];simp [hl]
  all_goals
   subst hr;clear hR hl h1 h2 t1 t2
   go_enter func236,ntmps236
   go_wp2;go_ret
   exact⟨rfl,pbx⟩
 have t3:(kind==3)=false:=by simpa using h3
 rw [if_neg h3] at hR;subst hR;clear h1 h2 h3
 go_enter func236,ntmps236
 go_wp2;go_ret
 exact⟨rfl,pbx⟩
theorem zbG(n:Int)(w:World):Calls prog 238 #[.int .i64 n] w λr w'=>r=.returned (.string (bs [UInt8.ofNat (n % 256).toNat]))/\Below w.heap.size w w':=by
 have aa:=run_convert_bytes_arg (P:=prog) (w.alloc (.cells #[.int .u8 (n % 256)] 5)) 49 5 Tryz.underlying49 Tryz.underlying5 w.heap.size 0 1 1 [n % 256] rfl (λi hi=>by obtain rfl:i=0:=(by omega);simp) 9 Tryz.underlying9
 have hs:strOfNums [n % 256]=bs [UInt8.ofNat (n % 256).toNat]:=by
  unfold strOfNums bs;simp
 rw [hs] at aa;clear hs
 go_enter func238,ntmps238
 go_wp2;go_ret
 exact⟨rfl,pbx⟩
theorem zl6(a b c d:List UInt8):Lib.join [a,b,c,d] []=a++b++c++d:=by simp [Lib.join,List.intercalate]
theorem zds(bk:Nat)(x y z u:List UInt8)(w:World)(hk:Blk w bk #[.string (bs x),.string (bs y),.string (bs z),.string (bs u)] 9)(hl:(x++y++z++u).length<=140737488355328):
 Calls prog 237 #[.slice (some ⟨bk,0,none⟩) 4 4] w λe w'=>e=.returned (.string (bs (x++y++z++u)))/\Below w.heap.size w w':=by
 have hj:=Tryz.strings_Join bk 0 4 [bs x,bs y,bs z,bs u] ⟨#[]⟩ w (λj t hz=>by
  have hc:=hk.cell j;rw [Nat.zero_add,hc];obtain rfl|rfl|rfl|rfl|h:j=0∨j=1∨j=2∨j=3∨4<=j:=by omega
  ·simp at hz;subst hz;rfl
  ·simp at hz;subst hz;rfl
  ·simp at hz;subst hz;rfl
  ·simp at hz;subst hz;rfl
  rw [List.getElem?_eq_none (by simpa using h)] at hz;cases hz) hk.lt (by simp) (by simp) (by
  simp only [List.map_cons,List.map_nil,qZ]
  rw [zl6];omega)
 simp only [List.map_cons,List.map_nil,qZ] at hj;rw [zl6] at hj;replace hj:=hid hj;clear hk hl
 go_enter func237,ntmps237
 go_wp2_with (go_at_call 138;refine hj.out.mono ?_;rintro e w' ⟨rfl,hb⟩)
 go_ret
 exact⟨by simp [bs],hb⟩
theorem zhG(l:List zA):(j0 l).1.length<=65000:=by
 unfold j0
 split
 ·simp
 split
 ·rename_i h1 h2
  have:=ZF l (List.all_eq_true.1 h2);simp only [N1,U2];omega
 simp
theorem YR(e:jH)(mv:Value)(w:World)(hm:qJ w mv e.msgs)(hl:e.msgs.length<=1073741824):Calls prog 185 #[ZG e mv] w λr w'=>
 r=.returned (.tuple #[.string (bs (jC e).1),.int .i64 (jC e).2])/\Below w.heap.size w w':=by
 obtain⟨R,hR⟩:∃R,jC e=R:=⟨_,rfl⟩;rw [hR];unfold jC at hR;have aa:=zfJ e mv;have ae:=zeM mv e.msgs;unfold ZG at aa⊢;replace aa:=hid aa;replace ae:=hid ae;replace hm:=hid hm
 cases h1:qf e
 ·rw [if_pos h1] at hR
  subst hR
  go_enter func185,ntmps185
  go_wp2_with (go_at_call 236;refine(aa.out _ (hm.out.below (pbx))).mono ?_;rintro r w1 ⟨rfl,af⟩;rw [h1])
  go_ret2
  exact⟨rfl,pbx⟩
 rw [if_neg (by simp [h1])] at hR
 by_cases hp0:(j0 e.msgs).2=0
 ·rw [if_neg (by simpa using hp0)] at hR
  have t2:((j0 e.msgs).2 !=0)=false:=by simpa using hp0
  clear hp0
  go_enter func185,ntmps185
  go_wp2_with (first
   |(go_at_call 236;refine(aa.out _ (hm.out.below (pbx))).mono ?_;rintro r w1 ⟨rfl,af⟩;rw [h1]
     have kb:Blk w1 w.heap.size #[.int .i64 e.kind,.int .u32 e.epoch,.int .i64 e.ver,mv] 241:=Blk.call (bkx) af
     have ke:=kb.cell)
   |(go_at_call 92;refine(ae.out _ (hm.out.below (pbx)) hl).mono ?_;rintro r w2 ⟨rfl,ak⟩))
  have k2:=(kb.call ak).drew;have al:Below w.heap.size w w2.drew:=pbx;clear ke t2 kb
  generalize hpp:(j0 e.msgs).1=pp at*
  replace hpp:=hid hpp;refine zd [O 0,O 1,O 3,O 4,O 6,O 7,O 9,E 2,E 5,E 8,E 10,E 11,O 12] none (λw'=>Blk w' w.heap.size #[.int .i64 e.kind,.int .u32 e.epoch,.int .i64 e.ver,mv] 241/\True) ⟨k2,trivial⟩ ?_
  refine Wb ?_
  refine zc rfl (λK hK=>?_)
  go_wp2_with (go_at_call 238;refine(zbG _ _).mono ?_;rintro r w3 ⟨rfl,ah⟩)
  have k3:=k2.call ah;refine hK.out _ _ (λ_=>⟨k3,trivial⟩) ?_;clear hK K;refine zc rfl (λK hK=>?_)
  go_wp2_with (go_at_call 134;refine(y9 _ _).mono ?_;rintro r w4 ⟨rfl,ag⟩)
  have k4:=k3.call ag;refine hK.out _ _ (λ_=>⟨k4,trivial⟩) ?_;clear hK K;refine zc rfl (λK hK=>?_)
  go_wp2_with (go_at_call 238;refine(zbG _ _).mono ?_;rintro r w5 ⟨rfl,ai⟩)
  have k5:=k4.call ai;refine hK.out _ _ (λ_=>⟨k5,trivial⟩) ?_;clear hK K;refine zc rfl (λK hK=>?_);go_wp2;have k6:=k5.alloc (.cells #[.string (bs [UInt8.ofNat (e.kind % 256).toNat]),.string (bs (le4 e.epoch)),.string (bs [UInt8.ofNat (e.ver % 256).toNat]),.string (bs pp)] 9);refine hK.out _ _ (λ_=>⟨k6,trivial⟩) ?_;clear hK K;refine zc rfl (λK hK=>?_)
  go_wp2_with (go_at_call 237;refine(zds _ _ _ _ _ _ (Blk.new rfl) ?_).mono ?_)
  ·have:=zhG e.msgs
   rw [hpp.out] at this;simp only [N1,U2,jd];omega
  rintro r w6⟨rfl,aj⟩
  generalize([UInt8.ofNat (e.kind % 256).toNat] ++le4 e.epoch++ [UInt8.ofNat (e.ver % 256).toNat] ++pp)=full at*
  have ad:=zL full;go_wp2;refine hK.out _ _ (λ_=>⟨k6.call aj,trivial⟩) ?_;clear hK K
  refine Wb ?_
  refine ze ?_;have ac:Below w.heap.size w w6:=zh (zi (zh (zh (zh al ah) ag) ai) _) aj;clear aj ai ag ah k2 k3 k4 k5 k6
  by_cases hlen:4000<full.length
  ·rw [if_pos hlen] at hR
   subst hR;have t4:decide (4000<((bs full).size:Int))=true:=by rw [ad];simp;omega
   clear hlen ad;go_wp2;go_ret2
   exact⟨rfl,ac⟩
  rw [if_neg hlen] at hR
  subst hR;have t4:decide (4000<((bs full).size:Int))=false:=by rw [ad];simp;omega
  clear hlen ad;go_wp2;go_ret2
  exact⟨rfl,ac⟩
 rw [if_pos hp0] at hR
 subst hR;have t2:((j0 e.msgs).2 !=0)=true:=by simpa using hp0
 clear hp0
 go_enter func185,ntmps185
 go_wp2_with (first
  |(go_at_call 236;refine(aa.out _ (hm.out.below (pbx))).mono ?_;rintro r w1 ⟨rfl,af⟩;rw [h1]
    have kb:Blk w1 w.heap.size #[.int .i64 e.kind,.int .u32 e.epoch,.int .i64 e.ver,mv] 241:=Blk.call (bkx) af
    have ke:=kb.cell)
  |(go_at_call 92;refine(ae.out _ (hm.out.below (pbx)) hl).mono ?_;rintro r w2 ⟨rfl,ak⟩))
 go_ret2
 exact⟨rfl,pbx⟩
theorem zjM(e:jH):Js e=((jC e).2==0):=rfl
theorem zfK(e:jH)(mv:Value)(w:World)(hm:qJ w mv e.msgs)(hl:e.msgs.length<=1073741824):Calls prog 307 #[ZG e mv] w λr w'=>
 r=.returned (.bool (Js e))/\Below w.heap.size w w':=by
 rw [zjM];have aa:=YR e mv;unfold ZG at aa⊢;replace aa:=hid aa;replace hm:=hid hm
 go_enter func307,ntmps307
 go_wp2_with (go_at_call 185;refine(aa.out _ (hm.out.below (pbx)) hl).mono ?_;rintro r w1 ⟨rfl,ac⟩)
 go_ret
 exact⟨rfl,pbx⟩
end
section
open Go Go.RowKit Go.ChangeShapes Go.WideShapes Go.ChangeAt Go.Deep
theorem zhH:prog.cellsOf 3=1:=by kernel_rfl
theorem zjN(b off j:Nat):(⟨b,off,none⟩:Addr).add j=⟨b,off+j,none⟩:=by unfold Addr.add;split<;>simp_all
section
variable {H:Type}{enc:TypeId×Value->H}{w:World}{base:Nat}{held:Bool}
end
end
section
open Go Go.RowKit Go.ChangeShapes Go.WideShapes Go.ChangeAt Go.Deep
def JF {α:Type}(w:World)(v:Value)(n:Nat)(cells:α->List Value)(l:List α):Prop:=
 (v=.slice none 0 0/\l=[])∨∃a cap,v=.slice (some a) l.length cap/\∀i p,l[i]?=some p->∀j,j<n->w.cell? (a.add (i*n+j))=(cells p)[j]?
theorem zfL {α H:Type}{enc:TypeId×Value->H}{P:Program}{w:World}{base:Nat}{held:Bool}{t e:TypeId}{n:Nat}(ht:P.underlying t=some (.slice e))(hc:P.cellsOf e=n){cells:α->List Value}{Q:α->Prop}
 (ho:∀(fuel:Nat)(cs:List Value)(x:DataW H×List MemPlace),DataW.trod enc P w base (λ_=>true) held fuel e cs=some x->∃y,cs=cells y/\Q y)
 {fuel:Nat} {v:Value} {x:DataW H×List MemPlace} (h:DataW.trod enc P w base (λ_=>true) held fuel t [v]=some x):
 ∃l:List α,JF w v n cells l/\(∀y∈l,Q y)/\l.length<=9223372036854775807:=by
 subst hc
 rcases open_slice ht h with⟨h0, -⟩|⟨a,len,cap,m,n,D,Pl,hcs,hb,hl,hm,hmm,hx,hi⟩
 ·simp at h0;subst h0
  exact⟨[],.inl ⟨rfl,rfl⟩,by simp,by simp⟩
 simp at hcs;subst hcs
 have ae:m=cap:=by rw [hmm];simp
 subst ae
 have ac:∀k,k<=len->∃l:List α,l.length=k/\(∀i y,l[i]?=some y->∀j,j<P.cellsOf e->w.cell? (a.add (i*P.cellsOf e+j))=(cells y)[j]?)/\∀y∈l,Q y:=by
  intro k
  induction k with
  |zero=>intro _;exact⟨[],rfl,by simp,by simp⟩
  |succ k ih=>
   intro hk;obtain⟨l,h1,h2,h3⟩:=ih (by omega);obtain⟨ag,hc,ad⟩:=hi k (by omega);obtain⟨y,rfl,hy⟩:=ho _ _ _ ad;obtain⟨_,af,aa⟩:=World.cells?_some hc;refine⟨l++ [y],by simp [h1],λi z hz j hj=>?_,?_⟩
   ·by_cases hik:i<k
    ·rw [U8 (by omega)] at hz
     exact h2 i z hz j hj
    rw [U6 (by omega)] at hz
    have:i=k:=by
     rcases Nat.lt_or_ge i (k+1)with h|h
     ·omega
     rw [List.getElem?_eq_none (by simp;omega)] at hz;cases hz
    subst this;simp [h1] at hz;subst hz
    rw [← Go.Deep.add_add];exact aa j hj
   intro z hz
   rcases List.mem_append.1 hz with h|h
   ·exact h3 z h
   simp at h;rw [h];exact hy
 obtain⟨l,h1,h2,h3⟩:=ac len (N0 _);subst h1;exact⟨l,.inr ⟨a,m,rfl,h2⟩,h3,by have:m<=maxLen:=hm;unfold maxLen at this;omega⟩
theorem JF.shape {α:Type}{w:World}{v:Value}{n:Nat}{cells:α->List Value}{l:List α}(h:JF w v n cells l)(hn:0<n)(h0:∀y,∃u,(cells y)[0]?=some u):
 ∃a cap,v=.slice a l.length cap/\∀i p,l[i]?=some p->∃b off,a=some ⟨b,off,none⟩/\∀j,j<n->w.cell? ⟨b,off+(i*n+j),none⟩=(cells p)[j]?:=by
 rcases h with⟨rfl,rfl⟩|⟨⟨b,off,spot⟩,cap,rfl,hc⟩
 ·exact⟨none,0,rfl,λi p hp=>by simp at hp⟩
 refine⟨_,cap,rfl,λi p hp=>?_⟩
 obtain⟨p0,ac⟩:∃p0,l[0]?=some p0:=⟨_,N3 (by have:=(N6.1 hp).1;omega)⟩;have h1:=hc 0 p0 ac 0 hn;obtain⟨u,hu⟩:=h0 p0;rw [hu] at h1
 have aa:spot=none:=by
  have:=World.cell?_spot (w:=w) (v:=u) (a:=(⟨b,off,spot⟩:Addr).add (0*n+0)) h1
  simpa [Addr.add] using this
 subst aa;exact⟨b,off,rfl,λj hj=>by rw [← zjN];exact hc i p hp j hj⟩
section
variable {H:Type}{enc:TypeId×Value->H}{w:World}{base:Nat}{held:Bool}
theorem zhI(fuel:Nat)(cs:List Value)(x:DataW H×List MemPlace)(h:DataW.trod enc prog w base (λ_=>true) held fuel 3 cs=some x):∃k:Int,cs=[.int .i64 k] /\True:=by
 obtain⟨k,e, -, -⟩:=DataW.trod_int Tryz.underlying3 h;exact⟨k,e,trivial⟩
set_option maxRecDepth 100000 in
theorem QR {b0:Nat}{v:Value}{d:DataW H}{p:List MemPlace}(hv:Value.okWide prog w .any b0 22 v)(h:DataW.Trod enc prog w base (λ_=>true) held 22 v d p):
 ∃l:List Int,JF w v 1 (λx=>[.int .i64 x]) l/\l.length<=9223372036854775807:=by
 obtain⟨a,n,c,rfl⟩:=Go.WideShapes.okWide_slice Tryz.underlying22 hv;obtain⟨aa,hf⟩:=h;obtain⟨l,h1, -,h2⟩:=zfL Tryz.underlying22 zhH zhI hf;exact⟨l,h1,h2⟩
end
end
open Go
def Vn(s:Nat):Nat:=if s % 2=1 then(s / 2)^^^ 3988292384 else s / 2
def ZH:Nat->Nat->Nat
 |0,s=>s
 |n+1,s=>ZH n (Vn s)
def vN(s:Nat)(b:UInt8):Nat:=ZH 8 (s ^^^ b.toNat)
def zhJ(l:List UInt8):Nat:=4294967295 - l.foldl vN 4294967295
def Zb(l:List UInt8):List UInt8:=l++le4 (zhJ l)
def xU(l:List UInt8):Option (List UInt8):=
 if l.length<4 then none else if l.drop (l.length - 4)=le4 (zhJ (l.take (l.length - 4)))then some (l.take (l.length - 4))else none
def yy(l:List UInt8):Nat:=if l.length=4 then l.foldr (λb n=>b.toNat+256*n) 0 else 0
theorem YS {V:Type}(k:MId):∀(l:List (MId×V)),(del k l).length<=l.length
 | []=>N0 _
 |(k',v')::l=>by
  have ih:=YS k l;unfold del
  split
  ·simp
  simp;exact ih
theorem zaz {V:Type}{k:MId}{v:V} :∀ {l:List (MId×V)},zE k l=some v->(del k l).length+1=l.length
 | [],h=>by cases h
 |(k',v')::l,h=>by
  by_cases hk:k=k'
  ·simp [del,hk]
  have h':zE k l=some v:=by simpa [zE,hk] using h
  have ih:=zaz h';simp [del,hk]
  exact ih
theorem Vo:∀(n m:Nat)(ws:List (MId×zA)) (x:zA),zde ws->(del x.1 ws).length<=n->(del x.1 ws).length<=m->zX n ws x=zX m ws x
 |0,0,ws,x,_,_,_=>rfl
 |0,m+1,ws,x,hw,h0,hm=>by
  have hn:del x.1 ws=[]:=N9 (by omega);simp [zX,hn,zE]
 |n+1,0,ws,x,hw,h0,hm=>by
  have hn:del x.1 ws=[]:=N9 (by omega);simp [zX,hn,zE]
 |n+1,m+1,ws,x,hw,h0,hm=>by
  unfold zX
  cases hl:zE (x.1.1,(x.1.2+1)% 4294967296) (del x.1 ws)with
  |none=>rfl
  |some y=>
   have hy:y.1=(x.1.1,(x.1.2+1)% 4294967296):=((hw.del x.1) _ (xD hl)).1;have hlen:=zaz hl;rw [← hy] at hlen;have:=Vo n m (del x.1 ws) y (hw.del x.1) (by omega) (by omega);simp only [this]
def QS(s:List (MId×zA)×Option zA):List zA:=match s.2 with|none=>[] |some x=>(zX s.1.length s.1 x).2
def zbH(s:List (MId×zA)×Option zA):List (MId×zA):=match s.2 with|none=>s.1|some x=>(zX s.1.length s.1 x).1
def zaA(ws:List (MId×zA))(x:zA):List (MId×zA)×Option zA:=(del x.1 ws,zE (x.1.1,(x.1.2+1)% 4294967296) (del x.1 ws))
theorem zjO {ws:List (MId×zA)}{x:zA}(hw:zde ws):QS (ws,some x)=x::QS (zaA ws x)/\zbH (ws,some x)=zbH (zaA ws x):=by
 have ac:=YS x.1 ws
 show(zX ws.length ws x).2=_/\(zX ws.length ws x).1=_
 unfold zaA
 cases hl:zE (x.1.1,(x.1.2+1)% 4294967296) (del x.1 ws)with
 |none=>
  cases hn:ws.length with
  |zero=>exact⟨rfl,rfl⟩
  |succ n=>simp [zX,hl,QS,zbH]
 |some y=>
  have hy:y.1=(x.1.1,(x.1.2+1)% 4294967296):=((hw.del x.1) _ (xD hl)).1;have aa:=zaz hl;rw [← hy] at aa
  cases hn:ws.length with
  |zero=>omega
  |succ n=>
   have:=Vo n (del x.1 ws).length (del x.1 ws) y (hw.del x.1) (by omega) (by omega);simp [zX,hl,QS,zbH,this]
theorem zfM {ws:List (MId×zA)}{x y:zA}(hw:zde ws)(h:(zaA ws x).2=some y):y.1.1=x.1.1/\zx y=true:=by
 have h1:=(hw.del x.1) _ (xD h);exact⟨by rw [h1.1],h1.2⟩
theorem YT:∀(n:Nat)(ws:List (MId×zA)) (x:zA),zde ws->zx x=true->zde (zX n ws x).1/\∀y∈(zX n ws x).2,zx y=true
 |0,ws,x,hw,hx=>⟨hw.del _,by simp [zX,hx]⟩
 |n+1,ws,x,hw,hx=>by
  unfold zX
  cases hl:zE (x.1.1,(x.1.2+1)% 4294967296) (del x.1 ws)with
  |none=>exact⟨hw.del _,by simp [hx]⟩
  |some y=>
   have hy:=((hw.del x.1) _ (xD hl)).2;have ih:=YT n (del x.1 ws) y (hw.del _) hy;exact⟨ih.1,by simpa [hx] using ih.2⟩
theorem QT:∀(l:List zA)(tk:List Nat),(∀n∈tk,n<=4294967294)->(∀y∈l,zx y=true)->∀n∈qd tk l,n<=4294967294
 | [],tk,h,_=>h
 |x::l,tk,h,hl=>by
  show∀n∈qd (tk.set x.1.1.toNat x.1.2) l,n<=4294967294
  refine QT l _ (λn hn=>?_) (λy hy=>hl y (U7 _ hy))
  rcases List.mem_or_eq_of_mem_set hn with h1|h1
  ·exact h n h1
  have:=hl x (List.mem_cons_self ..)
  simp [zx] at this
  omega
theorem xG(tk:List Nat)(l:List zA):(qd tk l).length=tk.length:=by
 unfold qd
 induction l generalizing tk with
 |nil=>rfl
 |cons x l ih=>rw [List.foldl_cons,ih];simp
theorem zfN(tk:List Nat)(l:List zA)(x:zA):qd tk (l++ [x])=(qd tk l).set x.1.1.toNat x.1.2:=by
 simp [qd,List.foldl_append]
theorem JG:∀(n:Nat)(ws:List (MId×zA)) (x:zA),(zX n ws x).2.length<=n+1
 |0,ws,x=>by simp [zX]
 |n+1,ws,x=>by
  unfold zX
  cases zE (x.1.1,(x.1.2+1)% 4294967296) (del x.1 ws)with
  |none=>simp
  |some y=>have:=JG n (del x.1 ws) y;simp;omega
theorem xh.row {b:vL}(h:xh b){m:zA}(hm:zx m=true)(n:Nat):xh {tk:=qd b.tk (zX n b.ws m).2,log:=b.log++(zX n b.ws m).2,ws:=(zX n b.ws m).1} :=
 ⟨by rw [xG];exact h.sixteen,QT _ _ h.most (YT n b.ws m h.keys hm).2,(YT n b.ws m h.keys hm).1⟩
