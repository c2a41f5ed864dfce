/- PARTS OF THE PROOF. -/
import Derived.Lib.AppendStr
import Derived.Laws.MakeOwn
import Derived.Test.YtofppfoioodblaaGreatDoorTT04
set_option maxRecDepth 8000
set_option maxHeartbeats 4000000
open Go.Proofs.Tryz
namespace Go.Proofs.YtofppfoioodblaaGreatDoor
section
open Go Go.RowKit Go.Shelf Go.Extern.Stop Go.Stop Go.Extern
open Go.Lib
attribute [local go_sem] Oper.semAt_some zv zm
def u8s(l:List UInt8):List Value:=l.map λb=>Value.int .u8 b.toNat
theorem zcl(l:List UInt8):strCells (bs l)=u8s l:=by simp [strCells,u8s,bs]
theorem X0(a b:List UInt8):u8s (a++b)=u8s a++u8s b:=by simp [u8s]
theorem zgm:Yc prog 49 5 1 1 (.int .u8 0):=⟨Tryz.underlying49,by kernel_rfl,rfl,by decide,by decide⟩
theorem zls:Yc prog 107 9 1 16 (.string ⟨#[]⟩):=⟨Tryz.underlying107,by kernel_rfl,rfl,by decide,by decide⟩
def yD(ts:List (List UInt8)):List Value:=ts.map λt=>Value.string (bs t)
theorem zgn(ts:List (List UInt8)):∀u∈yD ts,u.oneCell'=true:=by
 intro u hu;simp [yD] at hu;obtain⟨t,_,rfl⟩:=hu;rfl
theorem zjO {base:Nat}{w:World}{e:TypeId}{size:Nat}{v:Value}{n:Nat}{xs:List Value}(h:w.ownsRow base e size v n xs):Src w v size n xs:=Row.src (e:=e) ⟨h.1,by
 rcases h.2 with h|⟨g',c',cu,h,hb',r⟩
 ·exact .inl h
 ·exact .inr ⟨g',c',cu,h,Nat.zero_le _,r⟩⟩
theorem zcm {base:Nat}{w:World}{v:Value}{l s:List UInt8}(h:w.ownsRow base 5 1 v l.length (u8s l))(hb:l.length+s.length<=1073741824)(hB:base<=w.heap.size)(ty:TypeId):
 ∃v' w',(Builtin.append_ #[49,9] ty #[v,.string (bs s)]).run prog w=.ok v' w'/\w'.ownsRow base 5 1 v' (l++s).length (u8s (l++s))/\w.grownBy w' v.ownBlock:=by
 obtain⟨i,hi,hz0,hz1,hz2⟩:=info_parts zgm.info;obtain⟨v',w',h1,h2,h3, -⟩:=run_append_own_string (P:=prog) w base 49 9 ty 5 i zgm.under Tryz.underlying9 hi hz0 hz1 hz2 v _ _ h (bs s) (by rw [zJ];unfold maxLen;omega) (by rw [zJ];omega) hB;refine⟨v',w',h1,?_,h3⟩;rw [zcl,zJ] at h2;rw [N1,X0];exact h2
theorem Yd {P:Program}{w:World}{ops:Array Oper}{rest:List Oper}{o:Oper}{a:Act}{Q:Exit->Act->World->Prop}(hgd:o.guard=none)(s x:Operand)(t u:TypeId)
 (ho:o.op=.call {callee:=.builtin .append,args:=#[s,x],argTypes:=#[t,u] }) {v src:Value} (hs:a.eval s=v) (hx:a.eval x=src)
 {v':Value} {w':World} (hr:(Builtin.append_ #[t,u] o.type #[v,src]).run P w=.ok v' w') (h:wpList P ops Q rest (a.put o.dst v') w'):wpList P ops Q (o::rest) a w:=by
 refine wpList_plain hgd λK hK=>?_
 unfold Oper.wp execOp;simp only [ho,resolve,invoke,builtin,Sem.run_bind,Sem.run_pure,Result.andThen_ok,List.map_toArray,List.map_cons,List.map_nil,hs,hx,hr];exact hK _ _ h
theorem Vv(l:List UInt8):strOfNums (l.map λb:UInt8=>(b.toNat:Int))=bs l:=by
 unfold strOfNums bs;congr 1;simp [Function.comp_def]
theorem Jq(ts:List (List UInt8))(k:Nat)(x:List UInt8)(h:ts[k]?=some x):(ts.take (k+1)).flatten=(ts.take k).flatten++x:=by
 rw [List.take_add_one,h];simp
theorem zaM(ts:List (List UInt8))(k:Nat):(ts.take k).flatten.length<=ts.flatten.length:=by
 have:=congrArg (λl=>l.flatten.length) (List.take_append_drop k ts);simp only [List.flatten_append,N1] at this;omega
theorem X2 {w:World}{v:Value}{l:List UInt8}(h:Src w v 1 l.length (u8s l)):(convert 49 9 v).run prog w=.ok (.string (bs l)) w:=by
 rcases h.2 with⟨rfl,hn⟩|⟨b,off,cap,rfl,hc,hr⟩
 ·obtain rfl:l=[]:=N9 hn
  exact run_convert_bytes_nil (P:=prog) w 49 5 Tryz.underlying49 Tryz.underlying5 0 0 9 Tryz.underlying9
 ·have:=run_convert_bytes_arg (P:=prog) w 49 5 Tryz.underlying49 Tryz.underlying5 b off l.length cap (l.map λb:UInt8=>(b.toNat:Int)) (by simp) (λi hi=>by
   refine hr i _ ?_
   simp [u8s,hi]) 9 Tryz.underlying9
  rw [this,Vv]
def QN(ts:List (List UInt8))(k:Nat):Nat:=(ts.take k).flatten.length
theorem Jr {ts:List (List UInt8)}{k:Nat}{x:List UInt8}(h:ts[k]?=some x):QN ts (k+1)=QN ts k+x.length:=by
 unfold QN;rw [Jq ts k x h,N1]
theorem Vw(ts:List (List UInt8))(k:Nat):QN ts k<=QN ts ts.length:=by
 have:=zaM ts k;simpa [QN] using this
theorem zcn(v:Value)(ts:List (List UInt8))(w:World)(hv:Src w v 1 ts.length (yD ts))(h0:0<ts.length)(hl:ts.length<=1000000)(hb:QN ts ts.length<=1073741824):Calls prog 135 #[v] w λe w'=>
 e=.returned (.string (bs ts.flatten))/\Below w.heap.size w w':=by
 obtain⟨i0,hi,hz0,hz1,hz2⟩:=info_parts zgm.info
 rcases hv.2 with⟨rfl,hn⟩|⟨b,off,cap,rfl,hc,hr⟩
 ·omega
 ·clear hv h0
  go_enter func135,ntmps135
  go_wp2
  go_loop [3,11] (λp3 p11=>∃k:Nat,k<=ts.length/\p11=.int .i64 k/\p3=.int .i64 (QN ts k:Nat)) (λ_ p11=>ts.length - (RowKit.intOf p11).toNat)
  case atStart=>exact⟨0,Nat.zero_le _,rfl,rfl⟩
  case round=>
   obtain⟨k,hk,rfl,rfl⟩:=hrel
   by_cases hlt:k<ts.length
   ·obtain⟨x,hx⟩:∃x,ts[k]?=some x:=⟨_,N3 hlt⟩
    have hc0:w.cell? ⟨b,off+k,none⟩=some (.string (bs x)):=hr k _ (by simp [yD,hx]);have hl1:=Vw ts k;have hl2:=Vw ts (k+1);have hfl:=Jr hx;have hxs:=zJ x;rw [hfl] at hl2;have hlx:((bs x).size:Int)<=1073741824:=by rw [hxs];omega
    replace hfl:=hid hfl;replace hxs:=hid hxs;replace hx:=hid hx;clear hr;go_wp2
    go_round
    case rel=>exact⟨k+1,by omega,by go_num,by rw [hfl.out];have:=hxs.out;go_num⟩
    case measure=>simp [RowKit.intOf];omega
   ·obtain rfl:k=ts.length:=by omega
    replace hr:=hid hr;obtain⟨w1,hmk,hown1,hgr1⟩:=run_make_own (P:=prog) w w.heap.size 49 5 i0 (.int .u8 0) 1 zgm.under hi hz0 hz1 .i64 .i64 (QN ts ts.length) (by rw [hz2];omega) (by unfold maxLen;omega) (N0 _);have hb1:Below w.heap.size w w1:=(N2 _ _).grown hgr1 (N0 _) (λ_ h=>by cases h);clear hgr1 hi hz0 hz1 hz2;go_wp2;clear hmk
    go_loopw [6,24] (λp6 p24 wr=>∃k:Nat,k<=ts.length/\p24=.int .i64 k/\wr.ownsRow w.heap.size 5 1 p6 (ts.take k).flatten.length (u8s (ts.take k).flatten)/\Below w.heap.size w wr) (λ_ p24 _=>ts.length - (RowKit.intOf p24).toNat)
    case atStart=>exact⟨0,Nat.zero_le _,rfl,hown1,hb1⟩
    case round=>
     obtain⟨k,hk,rfl,hown,hbw⟩:=hrel;clear hown1 hb1
     by_cases hlt:k<ts.length
     ·obtain⟨x,hx⟩:∃x,ts[k]?=some x:=⟨_,N3 hlt⟩
      have hc0:wr.cell? ⟨b,off+k,none⟩=some (.string (bs x)):=(hbw.cell (jH (hr.out k (.string (bs x)) (by simp [yD,hx])))).trans (hr.out k _ (by simp [yD,hx]));have hfl:=Jq ts k x hx
      have hle:(ts.take k).flatten.length+x.length<=1073741824:=by
       have h1:=Vw ts (k+1);rw [Jr hx] at h1;have h2:QN ts k=(ts.take k).flatten.length:=rfl;omega
      replace hfl:=hid hfl;replace hle:=hid hle;replace hx:=hid hx
      generalize hacc:(ts.take k).flatten=acc at*
      replace hacc:=hid hacc
      go_wp2_with (at_builtin
                   obtain⟨v',w2,hrun,hrow,hgr⟩:=zcm hown hle.out hbw.size 49;refine Yd rfl _ _ _ _ rfl rfl rfl hrun ?_
                   have hbw2:=hbw.grown hgr hbw.size (λg hg=>by
                    rcases hown.2 with⟨h,_⟩|⟨g',c',cu,h,hb',_⟩
                    ·rw [h] at hg;cases hg
                    ·rw [h] at hg;cases hg;exact hb')
                   clear hrun hgr)
      go_roundw
      case rel=>exact⟨k+1,by omega,by go_num,by rw [hfl.out];exact hrow,hbw2⟩
      case measure=>simp [RowKit.intOf];omega
     ·obtain rfl:k=ts.length:=by omega
      rw [List.take_length] at hown;have hcv:=X2 (zjO hown);clear hown hc hr;go_wp2;go_ret
      exact⟨rfl,hbw⟩
end
section
open Go Go.RowKit Go.Shelf Go.Extern.Stop Go.Stop Go.Extern
attribute [local go_sem] Oper.semAt_some zv zm
theorem vO.wait {b:vw}(h:vO b){m:zy}(hm:zB m=true):vO {b with ws:=put m.1 m b.ws} :=by
 refine⟨h.sixteen,h.most,?_⟩;intro p hp;have hk:=h.keys
 generalize b.ws=l at hp hk
 have hp':p∈put m.1 m l:=hp;clear hp
 induction l with
 |nil=>simp [put] at hp';subst hp';exact⟨rfl,hm⟩
 |cons q l ih=>
  obtain⟨k,v⟩:=q;unfold put at hp'
  split at hp'
  ·rcases List.mem_cons.1 hp' with rfl|h1
   ·exact⟨rfl,hm⟩
   ·exact hk p (U7 _ h1)
  ·rcases List.mem_cons.1 hp' with rfl|h1
   ·exact hk _ (List.mem_cons_self ..)
   ·exact ih (λq hq=>hk q (U7 _ hq)) h1
theorem zey(mb:Nat)(w:World):(binOp .eql 138 (.map (some mb)) (.map none)).run prog w=.ok (.bool false) w:=by kernel_rfl
theorem zil(B:Nat)(b:vw)(t:List Nat)(ow:Own)(m:zy)(hm:zB m=true)(w:World)(hb:jR B b t ow w):Calls prog 362 #[.pointer (some ⟨B,0,none⟩),vo m] w λe w'=>
 e=.returned (.tuple #[])/\∃ow',zq t ow w ow' w'/\jR B (if zgi b m.1 then b else {b with ws:=put m.1 m b.ws}) t ow' w':=by
 obtain⟨⟨i,c⟩,d⟩:=m;have hb0:=hb;obtain⟨hok,lv,mb,hB,hR,hM,o1,o2,o3⟩:=hb;have hnil:=zey mb
 cases hh:zgi b (i,c)
 ·unfold vo
  go_enter func362,ntmps362
  go_wp2_with (first
   |(go_at_call 365;refine(zgk B b t ow _ _ _ ((jR.loc B b t).below hb0 (pbx))).mono ?_;rintro e w1 ⟨rfl,hb1⟩
     have k0:Blk w1 w.heap.size #[.int .i64 i,.int .u32 c,.string (bs d)] 78:=Blk.call (bkx) hb1;have hBw:Below w.heap.size w w1:=pbx;have c0:=k0.cell;have cB:w1.cell? ⟨B,17,none⟩=some (.map (some mb)):=((hB.call hBw).cell 17).trans (xy b.tk lv mb hok.sixteen);have hM1:jc w1.drew mb idV (b.ws.map λp=>(p.1,vo p.2)):=hM.kept (hBw.block mb hM.lt);obtain⟨o,hup,hM2⟩:=hM1.update QM Tryz.underlying138 (i,c) (.agg #[.int .i64 i,.int .u32 c,.string (bs d)])
     unfold idV at hup))
  go_region
  go_wp2;go_end0
  refine⟨rfl,ow,(zq.of_below t ow (zo hBw)).trans (zq.putObj _ mb o (by rw [o2];exact Sub.rfl' t)),hok.wait hm,lv,mb,(hB.call hBw).drew.putObj (hB.ne_map hM) o,?_,?_,o1,o2,o3⟩
  ·exact hR.kept (λg hg=>(U1 (hR.ne_map hM hg)).trans (hBw.block g (hR.lt hg)))
  ·have hM3:jc (w1.drew.putObj mb o) mb idV (put (i,c) (vo ((i,c),d)) (b.ws.map λp=>(p.1,vo p.2))):=hM2
   rw [Yb vo] at hM3;exact hM3
 ·unfold vo
  go_enter func362,ntmps362
  go_wp2_with (go_at_call 365;refine(zgk B b t ow _ _ _ ((jR.loc B b t).below hb0 (pbx))).mono ?_;rintro e w1 ⟨rfl,hb1⟩)
  refine bodyPost_ret (results_none rfl _ _ _) rfl ?_;have hBw:Below w.heap.size w w1:=pbx;exact⟨rfl,ow,zq.of_below t ow hBw,(jR.loc B b t).below hb0 hBw⟩
theorem zcc:Yc prog 42 78 3 32 (.agg #[.int .i64 0,.int .u32 0,.string ⟨#[]⟩]):=⟨Tryz.underlying42,by kernel_rfl,rfl,by decide,by decide⟩
theorem jq(l:List zy):∀u∈l.flatMap zh,u.oneCell'=true:=by
 intro u hu;obtain⟨m,_,hm⟩:=List.mem_flatMap.1 hu;simp [zh] at hm
 rcases hm with rfl|rfl|rfl<;>rfl
theorem zaN(l:List zy):(l.flatMap zh).length=l.length*3:=by
 induction l with
 |nil=>rfl
 |cons m l ih=>simp [List.flatMap_cons,zh,ih];omega
theorem zaO(w:World):(binOp .eql 42 (.slice none 0 0) (.slice none 0 0)).run prog w=.ok (.bool true) w:=by kernel_rfl
theorem zco(a:Addr)(n c:Nat)(w:World):(binOp .eql 42 (.slice (some a) n c) (.slice none 0 0)).run prog w=.ok (.bool false) w:=by kernel_rfl
theorem zim(w:World)(e:TypeId)(size:Nat):Row (w.alloc (.cells #[] e)) e size (.slice (some ⟨w.heap.size,0,none⟩) 0 0) 0 []:=
 ⟨by simp,.inr ⟨w.heap.size,0,#[],rfl,Nat.zero_le _,World.alloc_heap_new w _,N0 _,Nat.zero_le _,by simp,by simp⟩⟩
theorem Vx(v:Value)(l:List zy)(w:World)(hv:Src w v 3 l.length (l.flatMap zh))(hb:l.length<=1073741824):Calls prog 38 #[v] w λe w'=>
 ∃v',e=.returned v'/\Row w' 78 3 v' l.length (l.flatMap zh)/\Below w.heap.size w w'/\(∀g,v'.ownBlock=some g->w.heap.size<=g):=by
 have hyes:=zaO w;have hno:=λa n c=>zco a n c w
 have hv0:=hv
 rcases hv.2 with⟨rfl,h0⟩|⟨b,off,cap,rfl,hc,hr⟩
 ·obtain rfl:l=[]:=N9 h0
  go_enter func38,ntmps38
  go_wp2;go_ret
  exact⟨_,rfl,z7 _ _ _,N2 _ _,by simp [Value.ownBlock]⟩
 ·clear hr hv
  replace hv0:=hid hv0;replace hb:=hid hb
  go_enter func38,ntmps38
  go_wp2_with (at_builtin
               obtain⟨v',w',hrun,hrow,hgr,hown⟩:=zT zcc (zim w 78 3) (Src.below (Hid.out hv0) ((N2 _ _).alloc (N0 _) _)) (jq l) (by have:=hb.out;omega) 42
               refine zw rfl _ _ _ rfl rfl rfl hrun ?_)
  go_ret
  refine⟨_,rfl,by simpa using hrow,((N2 _ _).alloc (N0 _) _).grown hgr (by simp) (λk hk=>by simp [Value.ownBlock] at hk;omega),λg hg=>?_⟩;have hg':v'.ownBlock=some g:=hg
  rcases hown with h1|h1<;>rw [hg'] at h1<;>simp [Value.ownBlock] at h1<;>omega
theorem zjP(B:Nat)(m:zy)(w:World):Calls prog 363 #[.pointer (some ⟨B,0,none⟩),vo m] w λe w'=>
 e=.returned (.func (.func 366) #[] #[.pointer (some ⟨w.heap.size+1,0,none⟩),.pointer (some ⟨w.heap.size,0,none⟩)])/\
 w'=(w.alloc (.cells #[.pointer (some ⟨B,0,none⟩)] 279)).alloc (.cells #[.int .i64 m.1.1,.int .u32 m.1.2,.string (bs m.2)] 78):=by
 unfold vo
 go_enter func363,ntmps363
 go_wp2;go_ret
 exact⟨rfl,rfl⟩
theorem xz {V:Type}{k:MId}{v:V} :∀ {l:List (MId×V)},zD k l=some v->(k,v)∈l
 | [],h=>by cases h
 |(k',v')::l,h=>by
  unfold zD at h
  split at h
  ·rename_i hk;cases h;subst hk;exact List.mem_cons_self ..
  ·exact U7 _ (xz h)
theorem zcp {V:Type}(k:MId):∀(l:List (MId×V)),∀p∈del k l,p∈l
 | [],p,h=>by cases h
 |(k',v')::l,p,h=>by
  unfold del at h
  split at h
  ·exact U7 _ h
  ·rcases List.mem_cons.1 h with rfl|h1
   ·exact List.mem_cons_self ..
   ·exact U7 _ (zcp k l p h1)
def zcd(ws:List (MId×zy)):Prop:=∀p∈ws,p.2.1=p.1/\zB p.2=true
theorem zcd.del {ws:List (MId×zy)}(h:zcd ws)(k:MId):zcd (del k ws):=λp hp=>h p (zcp k ws p hp)
def zin:zy:=((0,0),[])
def qy(v:Value)(o:Nat)(w:World):Value:=match v with| .pointer (some a)=>(w.cell? ⟨a.block,o,none⟩).getD undef|_=>undef
def zjQ(p4 p5:Value)(wr:World):Nat:=match p5 with| .bool true=>4294967296 - (intOf (qy p4 1 wr)).toNat|_=>0
theorem zio(bm bb B mb:Nat)(m:zy)(ws0:List (MId×zy))(hok0:zcd ws0)(hm:zB m=true):
 XG Fence.wide 2 prog 366 #[.pointer (some ⟨bm,0,none⟩),.pointer (some ⟨bb,0,none⟩)] (λx:zy=> #[vo x])
  (λ(s:List (MId×zy)×Option zy) x=>s.2=some x/\zB x=true/\zcd s.1) (λs x=>(del x.1 s.1,zD (x.1.1,(x.1.2+1)% 4294967296) (del x.1 s.1))) (λs=>s.2=none)
  (λs W=>Blk W bm #[.int .i64 m.1.1,.int .u32 m.1.2,.string (bs m.2)] 78/\W.cell? ⟨bb,0,none⟩=some (.pointer (some ⟨B,0,none⟩))/\W.cell? ⟨B,17,none⟩=some (.map (some mb))/\jc W mb idV (s.1.map λp=>(p.1,vo p.2))) (ws0,some m):=by
 intro l J Jx W hJ hJx hRd hY h0;obtain⟨r0,r1,r2,r3⟩:=hRd _ _ _ h0;have c0:=r0.cell;have f0:=r0.lt;have hF:Fence.wide.fn 366:=trivial;have hro:Fence.wide.round=none:=rfl;refine callsIn_of_wp func366 rfl hF ?_ hro;simp only [ntmps366,R8,Nat.reduceAdd,Nat.reduceSub]
 gi_wp2
 gi_loopw [4,5] (λp4 p5 wr=>∃(ws:List (MId×zy)) (o:Option zy) (X:Nat->Prop) (cb:Nat),p4=.pointer (some ⟨cb,0,none⟩)/\p5=.bool o.isSome/\
  Blk wr cb #[.int .i64 (o.getD zin).1.1,.int .u32 ((o.getD zin).1.2:Nat),.string (bs (o.getD zin).2)] 78/\X cb/\zcd ws/\zB (o.getD m)=true/\J (ws,o) X wr)
  (λp4 p5 wr=>zjQ p4 p5 wr)
 case atStart=>exact⟨ws0,some m,λk=>False∨k=W.heap.size,W.heap.size,rfl,rfl,Blk.new rfl,.inr rfl,hok0,hm,hJ.alloc (.cells #[.int .i64 m.1.1,.int .u32 m.1.2,.string (bs m.2)] 78) h0⟩
 case round=>
  clear r0 r1 r2 r3 c0 f0;obtain⟨ws,o,X,cb,rfl,rfl,hcb,hX,hws,hrm,hJs⟩:=hrel
  cases o with
  |none=>
   gi_wp2
   go_end0
   exact⟨⟨_,rfl⟩,.inl ⟨(ws,none),X,rfl,hJs⟩⟩
  |some x=>
   obtain⟨⟨i,c⟩,d⟩:=x;have c0:=hcb.cell;simp only [Option.getD_some] at c0;obtain⟨fn,tmps,assign,body,hy,hR⟩:=hY (ws,some ((i,c),d)) ((i,c),d) X _ hJs ⟨rfl,hrm,hws⟩;unfold vo at hy
   gi_wp2
   refine hR.mono ?_;rintro e W'(⟨rfl,hJ',hsv⟩|⟨rfl,hx'⟩)
   ·clear c0 hR hy
    obtain⟨-,r1,r2,r3⟩:=hRd _ _ _ hJ';have kcb:Blk W' cb #[.int .i64 i,.int .u32 c,.string (bs d)] 78:=hcb.kept (hsv.2 cb hX hcb.lt);have c0:=kcb.cell;have g0:=kcb.frozen;have lcb:=kcb.lt;have hcast:(((c+1)% 4294967296:Nat):Int)=((c:Int)+1)% 4294967296:=by omega
    obtain⟨y,hy⟩:∃y,zD (i,(c+1)% 4294967296) (del (i,c) ws)=y:=⟨_,rfl⟩;have hlk:=(r3.kept (w':=W'.drew) rfl).lookup_ok QM Tryz.underlying138 (zdF W'.drew) (i,(c+1)% 4294967296);rw [xx,Option.isSome_map,hy] at hlk;obtain⟨ym,hym⟩:∃ym,y.getD zin=ym:=⟨_,rfl⟩;have hyk:Hid (∀z,y=some z->z.1=(i,(c+1)% 4294967296)):=λz hz=>((hws.del (i,c)) _ (xz (hy.trans hz))).1
    have hry:Hid (zB (y.getD m)=true):=by
     cases hyy:y with
     |none=>exact hm
     |some z=>exact((hws.del (i,c)) _ (xz (hy.trans hyy))).2
    replace hy:=hid hy;replace hym:=hid hym
    have hv:(y.map vo).getD (.agg #[.int .i64 0,.int .u32 0,.string ⟨#[]⟩])=.agg #[.int .i64 ym.1.1,.int .u32 ym.1.2,.string (bs ym.2)]:=by
     rw [← hym.out];cases y<;>rfl
    rw [hv] at hlk;unfold idV at hlk;rw [hcast] at hlk;have hlk2:=hlk;rw [show((c:Int)+1)% 4294967296=IntKind.u32.wrap ((c:Int)+1)from(IntKind.wrap_u32 _).symm] at hlk2;clear hv r3
    gi_wp2
    refine wpIn_wide.2 ?_
    go_region
    gi_wp2
    go_roundw
    case rel=>
     refine⟨del (i,c) ws,y,λk=>X k∨k=W'.heap.size,W'.heap.size,rfl,rfl,?_,.inr rfl,hws.del _,hry.out,?_⟩
     ·rw [hym.out];exact(Blk.new (by simp)).drew
     ·rw [hy.out] at hJ'
      exact hJ _ _ _ _ _ hJ' (((((Mod.refl X W').thenSet hX _).thenSet hX _).thenSet hX _).thenAlloc _).thenDrew (λk hk=>by
       rcases hk with h|h
       ·exact .inl h
       ·right;subst h;simp)
    case measure=>
     have e1:qy (.pointer (some ⟨cb,0,none⟩)) 1 wr=.int .u32 (c:Int):=by
      show(wr.cell? ⟨cb,1,none⟩).getD undef=_
      rw [hcb.cell 1];rfl
     have hc4:c<=4294967294:=by
      have h1:zB ((i,c),d)=true:=hrm;simp [zB] at h1;exact h1.2
     cases y with
     |none=>
      show 0<4294967296 - (intOf (qy (.pointer (some ⟨cb,0,none⟩)) 1 wr)).toNat
      rw [e1];simp only [intOf];omega
     |some z=>
      have hz:=hyk.out z rfl;have hzm:ym=z:=hym.out.symm
      have e2:qy (.pointer (some ⟨W'.heap.size,0,none⟩)) 1 ((((W'.setCell ⟨cb,0,none⟩ (.int .i64 ym.1.1)).setCell ⟨cb,1,none⟩ (.int .u32 ym.1.2)).setCell ⟨cb,2,none⟩ (.string (bs ym.2))).alloc (.cells #[.int .i64 ym.1.1,.int .u32 ym.1.2,.string (bs ym.2)] 78)).drew=.int .u32 (ym.1.2:Int):=by
       have hk:Blk ((((W'.setCell ⟨cb,0,none⟩ (.int .i64 ym.1.1)).setCell ⟨cb,1,none⟩ (.int .u32 ym.1.2)).setCell ⟨cb,2,none⟩ (.string (bs ym.2))).alloc (.cells #[.int .i64 ym.1.1,.int .u32 ym.1.2,.string (bs ym.2)] 78)).drew W'.heap.size #[.int .i64 ym.1.1,.int .u32 ym.1.2,.string (bs ym.2)] 78:=(Blk.new (by simp)).drew
       show(World.cell? _ ⟨W'.heap.size,1,none⟩).getD undef=_
       rw [hk.cell 1];rfl
      show 4294967296 - (intOf (qy (.pointer (some ⟨W'.heap.size,0,none⟩)) 1 _)).toNat<4294967296 - (intOf (qy (.pointer (some ⟨cb,0,none⟩)) 1 wr)).toNat
      rw [e1,e2];simp only [intOf];rw [hzm,hz];simp only;omega
   ·gi_wp2
    refine bodyPost_ret (results_none rfl _ _ _) rfl ?_;exact⟨⟨_,rfl⟩,.inr ⟨_,hx'⟩⟩
end
open Go Go.RowKit Go.Shelf Go.Extern.Stop Go.Stop Go.Extern Go.Lib
attribute [local go_sem] Oper.semAt_some zv zm
def Zr(m:zy):List (List UInt8):=[[UInt8.ofNat (m.1.1 % 256).toNat],le4 m.1.2,le4 m.2.length,m.2]
def jO(n:Nat)(l:List zy):List (List UInt8):=[UInt8.ofNat (n % 256)]::l.flatMap Zr
theorem ZP(n:Nat)(l:List zy):(jO n l).flatten=[UInt8.ofNat (n % 256)] ++l.flatMap jj:=by
 unfold jO;rw [List.flatten_cons]
 congr 1
 induction l with
 |nil=>rfl
 |cons m l ih=>simp [List.flatMap_cons,Zr,jj,ih]
theorem YG(a b:List (List UInt8)):yD (a++b)=yD a++yD b:=by simp [yD]
theorem YH(l:List zy):(l.flatMap Zr).length=4*l.length:=by
 induction l with
 |nil=>rfl
 |cons y ll ih=>rw [List.flatMap_cons,N1,ih];simp [Zr];omega
theorem Zc:∀(l:List zy),(∀x∈l,zB x=true)->(l.flatMap jj).length<=1009*l.length
 | [],_=>by simp
 |m::l,h=>by
  have ih:=Zc l (λx hx=>h x (U7 _ hx));have hm:=h m (List.mem_cons_self ..);simp [zB] at hm
  rw [List.flatMap_cons,N1,List.length_cons];have:(jj m).length=9+m.2.length:=by simp [jj,zY];omega
  omega
def zdG(l:List zy)(n pb rb cb:Nat)(v:Value)(W0:World)(k:Nat)(X:Nat->Prop)(W:World):Prop:=
 Fr (λk=>k=pb∨k=rb∨k+1=pb) W0 X W/\Blk W cb #[v] 42/\k<=l.length/\(∀x∈l.take k,zB x=true)/\
  Blk W rb #[.bool true] 4/\∃pv,Blk W pb #[pv] 107/\Row W 9 1 pv (jO n (l.take k)).length (yD (jO n (l.take k)))/\(∀g,pv.ownBlock=some g->(g+1=pb∨W0.heap.size<=g)/\¬X g)
theorem zdG.stab {l:List zy}{n pb rb cb:Nat}{v:Value}{W0:World}{k:Nat}{X X':Nat->Prop}{W W':World}(h1:pb<W0.heap.size)(h2:rb<W0.heap.size)(h3:cb<W0.heap.size)
 (h:zdG l n pb rb cb v W0 k X W) (hm:Mod X W W') (hx:∀k,X' k->X k∨(W.heap.size<=k/\k<W'.heap.size)):zdG l n pb rb cb v W0 k X' W':=by
 obtain⟨hfr,kc,hk,hr,kr,pv,kp,kw,hn⟩:=h;refine⟨hfr.step hm hx,kc.kept (hfr.block hm h3),hk,hr,kr.kept (hfr.block hm h2),pv,kp.kept (hfr.block hm h1),kw.mod hm (λg hg=>(hn g hg).2),λg hg=>⟨(hn g hg).1,λhX=>?_⟩⟩
 rcases hx g hX with h|h
 ·exact(hn g hg).2 h
 ·have:=kw.lt hg;omega
theorem zdH(v:Value)(l:List zy)(w:World)(hv:Src w v 3 l.length (l.flatMap zh))(hl:l.length<=1073741824):Calls prog 92 #[v] w λe w'=>
 e=.returned (.tuple #[.string (bs (ye l).1),.int .i64 (ye l).2])/\Below w.heap.size w w':=by
 obtain⟨sa,sn,sc,rfl,rfl⟩:∃a n c,v=.slice a n c/\n=l.length:=by
  rcases hv.2 with⟨rfl,h⟩|⟨b,off,cap,rfl, -⟩
  ·exact⟨_,_,_,rfl,h.symm⟩
  ·exact⟨_,_,_,rfl,rfl⟩
 by_cases h64:64<l.length
 ·have hp:ye l=([],101):=by unfold ye;rw [if_pos h64]
  have t0:decide (64<(l.length:Int))=true:=by simp;omega
  rw [hp];clear hp hv h64;refine zl func92 rfl ?_;simp only [ntmps92,R8,Nat.reduceAdd,Nat.reduceSub];go_wp2;go_step3;go_wp2;rw [Exit.noGoto_ret];exact jI (v:=.tuple #[.string (bs []),.int .i64 101]) (by simp [results,Tryz.results92,go_sem,bs]) ⟨rfl,pbx⟩
 ·have t0:decide (64<(l.length:Int))=false:=by simp;omega
  have hcv:∀(W:World)(b:Nat)(n:Int),W.cell? ⟨b,0,none⟩=some (.int .u8 n)->(convert 49 9 (.slice (some ⟨b,0,none⟩) 1 1)).run prog W=.ok (.string (strOfNums [n])) W:=λW b n h=>
   run_convert_bytes_arg W 49 5 Tryz.underlying49 Tryz.underlying5 b 0 1 1 [n] rfl (λi hi=>by obtain rfl:i=0:=(by omega);exact h) 9 Tryz.underlying9
  have hcv0:=hcv (w.alloc (.cells #[.int .u8 (l.length:Int)] 5)) w.heap.size l.length (by simp);replace hcv:=hid hcv;replace hv:=hid hv;refine zl func92 rfl ?_;simp only [ntmps92,R8,Nat.reduceAdd,Nat.reduceSub];go_wp2;go_step3;go_wp2;go_step3
  go_wp2_with (go_at_call 133;refine(XZ _ ⟨_,_,_,rfl⟩ _).mono ?_;rintro e w1 ⟨rfl,rfl⟩)
  obtain⟨W0,hW0⟩:∃W0,W0=((((w.alloc (.cells #[.int .u8 (l.length:Int)] 5)).alloc (.cells #[.string (strOfNums [(l.length:Int)])] 9)).alloc (.cells #[.slice (some ⟨w.heap.size+1,0,none⟩) 1 1] 107)).alloc (.cells #[.bool true] 4)).alloc (.cells #[.slice sa l.length sc] 42):=⟨_,rfl⟩;rw [← hW0];obtain⟨pb,hpb⟩:∃pb,pb=w.heap.size+1+1:=⟨_,rfl⟩;rw [← hpb];have hsz:W0.heap.size=pb+3:=by rw [hW0,hpb];simp
  have hb0:Below w.heap.size w W0:=by rw [hW0];exact pbx
  have kp:Blk W0 pb #[.slice (some ⟨w.heap.size+1,0,none⟩) 1 1] 107:=by rw [hW0];exact((Blk.new (by simp [hpb])).alloc _).alloc _
  have kr:Blk W0 (pb+1) #[.bool true] 4:=by rw [hW0];exact(Blk.new (by simp [hpb])).alloc _
  have kc:Blk W0 (pb+1+1) #[.slice sa l.length sc] 42:=by rw [hW0];exact Blk.new (by simp [hpb])
  have hs1:strOfNums [(l.length:Int)]=bs [UInt8.ofNat (l.length % 256)]:=by
   unfold strOfNums bs;rw [Vp];simp
  have kw:Row W0 9 1 (.slice (some ⟨w.heap.size+1,0,none⟩) 1 1) (jO l.length (l.take 0)).length (yD (jO l.length (l.take 0))):=by
   have k1:Blk W0 (w.heap.size+1) #[.string (bs [UInt8.ofNat (l.length % 256)])] 9:=by rw [hW0,hs1];exact(((Blk.new (by simp)).alloc _).alloc _).alloc _
   exact⟨rfl,.inr ⟨w.heap.size+1,1,_,rfl,Nat.zero_le _,k1,N0 _,by decide,rfl,rfl⟩⟩
  have hv0:=hv.out.below hb0;have hpw:w.heap.size+2<=pb:=by omega
  replace hpb:=hid hpb;clear hcv0 hs1
  refine yS (gf:=174) (lb:=#[.pointer (some ⟨pb+1+1,0,none⟩)]) rfl (enters_of func174 (by kernel_rfl) rfl)
   (Vu (pb+1+1) (.slice sa l.length sc) l hl) (λ_=>rfl)
   (λk X W=>zdG l l.length pb (pb+1) (pb+1+1) (.slice sa l.length sc) W0 k X W)
   (λc X W=>c=.exit 0/\(∃x∈l,zB x=false)/\Fr (λk=>k=pb∨k=pb+1∨k+1=pb) W0 X W/\Blk W (pb+1) #[.bool false] 4)
   (λk X X' W W' h hm hx=>h.stab (by omega) (by omega) (by omega) hm hx)
   (λc s X X' W W' h hm hx=>⟨h.1,h.2.1,h.2.2.1.step hm hx,h.2.2.2.kept (h.2.2.1.block hm (by omega))⟩)
   (λk X W h=>⟨h.2.1,hv.out.below (hb0.trans (h.1.below (by omega) (λk hk=>by omega)))⟩)
   (λk X W h=>⟨h.1.2.size,λk hk=>(h.1.1 k hk).2⟩)
   ⟨Fr.refl _ _,kc,Nat.zero_le _,by simp,kr,_,kp,kw,by intro g hg;simp [Value.ownBlock] at hg;subst hg;have:=hpb.out;exact⟨.inl (by omega),id⟩⟩
   6 78 (λx=> #[.int .i64 x.1.1,.int .u32 x.1.2,.string (bs x.2)]) ?assign ?body ?done ?stop
  case assign=>
   intro l' x W K hK;rw [zZ] at hK⊢;unfold vo at hK⊢
   gi_wp2
   exact hK
  case body=>
   rintro l' k x cb X X1 W1 W h1 h hnx hcb hcw hXc kx hXl _;obtain⟨hfr,kc',hk,hrt,kr',pv,kp',kw',hn⟩:=h;obtain⟨⟨i,c⟩,d⟩:=x;have e0:=kx.cell;simp only at e0;rw [zZ];unfold vo;have lr:=kr'.lt;have lc:=kx.lt;have lp:=kp'.lt
   cases hr:zB ((i,c),d)
   ·gi_wp2_with (gi_at_call 91;refine(inRound _ _ (vH _ _ _ _)).mono ?_;rintro e w1 ⟨rfl,hb1⟩;have kr1:=kr'.call hb1;have er:=kr1.cell;have fr:=kr1.frozen;rw [hr])
    have hm:Mod (λk=>k=pb+1) W (w1.setCell ⟨pb+1,0,none⟩ (.bool false)):=(Mod.of_below (λk=>k=pb+1) hb1).thenSet (p:=⟨pb+1,0,none⟩) rfl _;refine⟨⟨rfl,⟨((i,c),d),List.mem_of_getElem? hnx,hr⟩,hfr.mod hm (λk _ h=>.inr (.inl h)),kr1.set _⟩,jB.of_mod hm (λk _ hX he=>by have:=hfr.1 k hX;omega)⟩
   ·obtain⟨xk,rfl,hxk⟩:∃k:Nat,i=k/\k<16:=by
     have:=hr;simp [zB] at this
     exact⟨i.toNat,by omega,by omega⟩
    have hxi:(xk:Int)<16:=by omega
    gi_wp2_with (gi_at_call 91
                 refine(inRound _ _ (vH _ _ _ _)).mono ?_;rintro e w1⟨rfl,hb1⟩;have kx1:=kx.call hb1;have ex:=kx1.cell;have lx1:=kx1.lt;have hcv1:=hcv.out (w1.alloc (.cells #[.int .u8 (xk:Int)] 5)) w1.heap.size xk (by simp)
                 rw [hr])
    obtain⟨W2,hW2⟩:∃W2,W2=w1.alloc (.cells #[.int .u8 (xk:Int)] 5):=⟨_,rfl⟩;rw [← hW2];have hb2:Below W.heap.size W W2:=by rw [hW2];exact zi hb1 _
    have kx2:=kx.call hb2;have kp2:=kp'.call hb2
    have hds:((bs d).size:Int)<=1000:=by
     have:=hr;simp [zB] at this
     rw [zJ];omega
    clear ex hcv1 lx1 kx1 e0 hW2;refine jJ [O 0,O 1,O 2,O 3,O 4,O 6,O 7,O 8,O 9,O 11,O 12,E 5,E 10,E 13,E 14,E 15] (some 15) (λw'=>Blk w' cb #[.int .i64 (xk:Int),.int .u32 (c:Int),.string (bs d)] 78/\Blk w' pb #[pv] 107/\True) (by kernel_rfl) (by kernel_rfl) ⟨kx2.drew,kp2.drew,trivial⟩ ?_
    (repeat (refine za (v:=?_) rfl rfl (λw' h=>?_) (λK k=>?_);rotate_left;obtain⟨f1,f2,_⟩:=h;have e1:=f1.cell;have e2:=f2.cell;go_simp;(try with_reducible rfl);go_simp;refine k _ ?_;clear k K))
    replace kx2:=kx2.drew;replace kp2:=kp2.drew;refine zc rfl (λK hK=>?_)
    go_wp2_with (go_at_call 134;refine(yI _ _).mono ?_;rintro e w3 ⟨rfl,hb3⟩)
    refine hK.out _ _ (λ_=>⟨kx2.call hb3,kp2.call hb3,trivial⟩) ?_;clear hK K;have kx3:=kx2.call hb3;have kp3:=kp2.call hb3;refine zc rfl (λK hK=>?_)
    go_wp2_with (go_at_call 134;refine(yI _ _).mono ?_;rintro e w4 ⟨rfl,hb4⟩)
    refine hK.out _ _ (λ_=>⟨kx3.call hb4,kp3.call hb4,trivial⟩) ?_;clear hK K;have kx4:=kx3.call hb4;have kp4:=kp3.call hb4;refine zc rfl (λK hK=>?_);go_wp2;obtain⟨w5,hw5⟩:∃w5,w5=w4.alloc (.cells #[.string (strOfNums [(xk:Int)]),.string (bs (le4 c)),.string (bs (le4 (bs d).size)),.string (bs d)] 9):=⟨_,rfl⟩;have k5:Blk w5 w4.heap.size #[.string (strOfNums [(xk:Int)]),.string (bs (le4 c)),.string (bs (le4 (bs d).size)),.string (bs d)] 9:=by rw [hw5];exact Blk.new rfl
    have kx5:=kx4.alloc (.cells #[.string (strOfNums [(xk:Int)]),.string (bs (le4 c)),.string (bs (le4 (bs d).size)),.string (bs d)] 9);have kp5:=kp4.alloc (.cells #[.string (strOfNums [(xk:Int)]),.string (bs (le4 c)),.string (bs (le4 (bs d).size)),.string (bs d)] 9);rw [← hw5] at kx5 kp5⊢;have hb5:Below W.heap.size W w5:=by rw [hw5];exact zi (zg (zg (zo hb2) hb3) hb4) _
    have h45:w4.heap.size<w5.heap.size:=by rw [hw5];simp
    refine hK.out _ _ (λ_=>⟨kx5,kp5,trivial⟩) ?_;clear hK K hw5
    have hsx:strOfNums [(xk:Int)]=bs [UInt8.ofNat ((xk:Int)% 256).toNat]:=by
     rw [zaF,Vp];unfold strOfNums bs;simp
    have hsd:=zJ d;have hts:yD (Zr (((xk:Int),c),d))=[.string (strOfNums [(xk:Int)]),.string (bs (le4 c)),.string (bs (le4 (bs d).size)),.string (bs d)]:=by rw [hsx,hsd];rfl
    have hlen:(jO l.length (l.take k)).length+4<=1073741824:=by
     have h1:(l.take k).length<=64:=by rw [N7];omega
     have h2:=YH (l.take k);simp only [jO,List.length_cons,h2];omega
    have hpt:jO l.length (l.take (k+1))=jO l.length (l.take k)++Zr (((xk:Int),c),d):=by
     unfold jO;rw [List.take_add_one,hnx];simp [List.flatMap_append]
    replace hts:=hid hts;replace hsd:=hid hsd;replace hsx:=hid hsx;replace hpt:=hid hpt;replace hlen:=hid hlen;refine zc rfl (λK hK=>?_);obtain⟨pv',w6,hrun,hrow,hgr,hown⟩:=zT zls (kw'.below hb5) (jM (n:=4) (size:=1) (cap:=4) k5 rfl (N0 4)) (by simp only [List.mem_cons,List.mem_nil_iff,or_false];rintro u (rfl|rfl|rfl|rfl)<;>rfl) hlen.out 107;refine zw rfl _ _ _ rfl rfl rfl hrun ?_;unfold wpList;have hpvB:∀g,pv.ownBlock=some g->g≠pb/\g≠pb+1/\g≠cb/\¬X g/\(g+1=pb∨W0.heap.size<=g):=λg hg=>⟨by have:=(hn g hg).1;omega,by have:=(hn g hg).1;omega,kw'.ne_blk kx (by decide) hg,(hn g hg).2,(hn g hg).1⟩
    have kx6:=kx5.kept (hgr.block cb kx5.lt (λe=>(hpvB cb e.symm).2.2.1 rfl));have kp6:=kp5.kept (hgr.block pb kp5.lt (λe=>(hpvB pb e.symm).1 rfl));refine hK.out _ _ (λ_=>⟨kx6,kp6,trivial⟩) ?_;clear hK K hrun;refine zc rfl (λK hK=>?_);obtain⟨va,vn,vc,rfl⟩:=hrow.shape;have ep6:=kp6.cell;have fp6:=kp6.frozen;replace hpvB:=hid hpvB;replace hpw:=hid hpw;go_wp2;refine hK.out _ _ (λh=>absurd rfl h) ?_;clear hK K ep6 fp6;refine ze ?_
    have hm:Mod (λk=>k=pb∨pv.ownBlock=some k) W (w6.setCell ⟨pb,0,none⟩ (.slice va vn vc)):=
     ((Mod.of_below (λk=>k=pb∨pv.ownBlock=some k) hb5).trans (Mod.grown hgr (λk h=>.inr h)) (λ_ _ e=>e) (λ_ _ e=>e)).thenSet (p:=⟨pb,0,none⟩) (.inl rfl) _
    have hb6:∀k,k<w5.heap.size->pv.ownBlock≠some k->k≠pb->(w6.setCell ⟨pb,0,none⟩ (.slice va vn vc)).heap[k]?=w5.heap[k]?:=λk hk h1 h2=>(N4 _ _ _ _ h2).trans (hgr.block k hk (λe=>h1 e.symm))
    refine⟨⟨hfr.mod hm (λk hk h=>?_),?_,?_,?_,?_,_,kp6.set _,?_,?_⟩,jB.of_mod hm (λk hk hX h=>?_)⟩
    ·rcases h with h|h
     ·exact .inl h
     ·rcases(hpvB.out k h).2.2.2.2 with h2|h2
      ·exact .inr (.inr h2)
      ·omega
    ·exact(kc'.call hb5).kept (hb6 _ (kc'.call hb5).lt (λe=>(by have:=(hpvB.out _ e).2.2.2.2;have:=hfr.2.size;omega)) (by omega))
    ·have:=(N6.1 hnx).1;omega
    ·intro y hy
     rw [List.take_add_one,hnx] at hy
     rcases List.mem_append.1 hy with h|h
     ·exact hrt y h
     ·simp at h;rw [h];exact hr
    ·exact(kr'.call hb5).kept (hb6 _ (kr'.call hb5).lt (λe=>(hpvB.out _ e).2.1 rfl) (by omega))
    ·rw [hpt.out,YG,N1,hts.out]
     exact Row.kept (w:=w6) hrow (λg hg=>N4 _ _ _ _ (show g≠pb from λe=>by
      rw [hg] at hown
      rcases hown with h|h
      ·exact(hpvB.out g h.symm).1 e
      ·have:=kp5.lt;simp at h;omega))
    ·intro g hg
     rw [hg] at hown
     rcases hown with h|h
     ·exact⟨(hpvB.out g h.symm).2.2.2.2,(hpvB.out g h.symm).2.2.2.1⟩
     ·simp at h
      have h1:=hfr.2.size;have h2:=hb5.size;exact⟨.inr (by omega),λhX=>by have:=(hfr.1 g hX).2;omega⟩
    ·have:=hfr.1 k hX
     rcases h with h|h
     ·omega
     ·exact(hpvB.out k h).2.2.2.1 hX
  case done=>
   rintro D k X W hD hXD hfin⟨hfr,kc',hk,hrt,kr',pv,kp',kw',hn⟩ hdef;obtain rfl:k=l.length:=hfin;rw [List.take_length] at hrt kw';have hall:l.all zB=true:=List.all_eq_true.2 hrt;have hp:ye l=([UInt8.ofNat (l.length % 256)] ++l.flatMap jj,0):=by unfold ye;rw [if_neg h64,if_pos hall]
   have hpl:QN (jO l.length l) (jO l.length l).length<=1073741824:=by
    unfold QN;rw [List.take_length,ZP];have:=Zc l hrt;simp only [N1,U2];omega
   have hpn:(jO l.length l).length<=1000000:=by
    have h2:=YH l;simp only [jO,List.length_cons,h2];omega
   have hj:=zcn pv (jO l.length l) W kw'.src (by simp [jO]) hpn hpl;rw [ZP] at hj;have er:=kr'.cell;have ep:=kp'.cell;have hbW:Below w.heap.size w W:=hb0.trans (hfr.below (by omega) (λk h=>by omega));replace hp:=hid hp;clear hall hpl hpn hrt;replace hj:=hid hj
   go_wp2_with (go_at_call 135;refine hj.out.mono ?_;rintro e w2 ⟨rfl,hb2⟩)
   rw [Exit.noGoto_ret];refine z8 (D:=D) (v:=.tuple #[.string (bs ([UInt8.ofNat (l.length % 256)] ++l.flatMap jj)),.int .i64 0]) ((hb2.block D (N5.1 hdef).1).trans hdef) (by simp [results,Tryz.results92,go_sem]) ⟨by rw [hp.out],zN (hbW.trans (hb2.mono hbW.size)) (by omega) _⟩
  case stop=>
   rintro D c X W hD hXD⟨rfl,hx,hfr,kr'⟩ hdef
   have hp:ye l=([],100):=by
    obtain⟨x,hx1,hx2⟩:=hx;have:¬l.all zB=true:=λh=>by have:=List.all_eq_true.1 h x hx1;rw [hx2] at this;cases this
    unfold ye;rw [if_neg h64,if_neg this]
   have er:=kr'.cell;have hbW:Below w.heap.size w W:=hb0.trans (hfr.below (by omega) (λk h=>by omega));replace hp:=hid hp;clear hx;go_wp2;rw [Exit.noGoto_ret];refine z8 (D:=D) (v:=.tuple #[.string (bs []),.int .i64 100]) hdef (by simp [results,Tryz.results92,go_sem,bs]) ⟨by rw [hp.out],zN hbW (by omega) _⟩
