/- PARTS OF THE PROOF. -/
import Derived.Lib.AppendStr
import Derived.Laws.MakeOwn
import Derived.Test.YtobnhnidffipjaaGreatDoorQ04
set_option maxRecDepth 8000
set_option maxHeartbeats 4000000
open Go.Proofs.Tryz
namespace Go.Proofs.YtobnhnidffipjaaGreatDoor
section
open Go Go.RowKit Go.Shelf Go.Extern.Stop Go.Stop Go.Extern
open Go.Lib
attribute [local go_sem] Oper.semAt_some zw zn
def u8s(l:List UInt8):List Value:=l.map λb=>Value.int .u8 b.toNat
theorem zcf(l:List UInt8):strCells (bs l)=u8s l:=by simp [strCells,u8s,bs]
theorem X5(a b:List UInt8):u8s (a++b)=u8s a++u8s b:=by simp [u8s]
theorem zgh:Ju prog 130 5 1 1 (.int .u8 0):=⟨Tryz.underlying130,by kernel_rfl,rfl,by decide,by decide⟩
theorem zla:Ju prog 167 9 1 16 (.string ⟨#[]⟩):=⟨Tryz.underlying167,by kernel_rfl,rfl,by decide,by decide⟩
def yB(ts:List (List UInt8)):List Value:=ts.map λt=>Value.string (bs t)
theorem zgi(ts:List (List UInt8)):∀u∈yB ts,u.oneCell'=true:=by
 intro u hu;simp [yB] at hu;obtain⟨t,_,rfl⟩:=hu;rfl
theorem zjr {base:Nat}{w:World}{e:TypeId}{size:Nat}{v:Value}{n:Nat}{xs:List Value}(h:w.ownsRow base e size v n xs):Src w v size n xs:=Row.src (e:=e) ⟨h.1,by
 rcases h.2 with h|⟨g',c',cu,h,hb',r⟩
 ·exact .inl h
 ·exact .inr ⟨g',c',cu,h,Nat.zero_le _,r⟩⟩
theorem zcg {base:Nat}{w:World}{v:Value}{l s:List UInt8}(h:w.ownsRow base 5 1 v l.length (u8s l))(hb:l.length+s.length<=1073741824)(hB:base<=w.heap.size)(ty:TypeId):
 ∃v' w',(Builtin.append_ #[130,9] ty #[v,.string (bs s)]).run prog w=.ok v' w'/\w'.ownsRow base 5 1 v' (l++s).length (u8s (l++s))/\w.grownBy w' v.ownBlock:=by
 obtain⟨i,hi,hz0,hz1,hz2⟩:=info_parts zgh.info;obtain⟨v',w',h1,h2,h3, -⟩:=run_append_own_string (P:=prog) w base 130 9 ty 5 i zgh.under Tryz.underlying9 hi hz0 hz1 hz2 v _ _ h (bs s) (by rw [zC];unfold maxLen;omega) (by rw [zC];omega) hB;refine⟨v',w',h1,?_,h3⟩;rw [zcf,zC] at h2;rw [N1,X5];exact h2
theorem Ye {P:Program}{w:World}{ops:Array Oper}{rest:List Oper}{o:Oper}{a:Act}{Q:Exit->Act->World->Prop}(hgd:o.guard=none)(s x:Operand)(t u:TypeId)
 (ho:o.op=.call {callee:=.builtin .append,args:=#[s,x],argTypes:=#[t,u] }) {v src:Value} (hs:a.eval s=v) (hx:a.eval x=src)
 {v':Value} {w':World} (hr:(Builtin.append_ #[t,u] o.type #[v,src]).run P w=.ok v' w') (h:wpList P ops Q rest (a.put o.dst v') w'):wpList P ops Q (o::rest) a w:=by
 refine wpList_plain hgd λK hK=>?_
 unfold Oper.wp execOp;simp only [ho,resolve,invoke,builtin,Sem.run_bind,Sem.run_pure,Result.andThen_ok,List.map_toArray,List.map_cons,List.map_nil,hs,hx,hr];exact hK _ _ h
theorem Vu(l:List UInt8):strOfNums (l.map λb:UInt8=>(b.toNat:Int))=bs l:=by
 unfold strOfNums bs;congr 1;simp [Function.comp_def]
theorem Jw(ts:List (List UInt8))(k:Nat)(x:List UInt8)(h:ts[k]?=some x):(ts.take (k+1)).flatten=(ts.take k).flatten++x:=by
 rw [List.take_add_one,h];simp
theorem zaJ(ts:List (List UInt8))(k:Nat):(ts.take k).flatten.length<=ts.flatten.length:=by
 have:=congrArg (λl=>l.flatten.length) (List.take_append_drop k ts);simp only [List.flatten_append,N1] at this;omega
theorem X6 {w:World}{v:Value}{l:List UInt8}(h:Src w v 1 l.length (u8s l)):(convert 130 9 v).run prog w=.ok (.string (bs l)) w:=by
 rcases h.2 with⟨rfl,hn⟩|⟨b,off,cap,rfl,hc,hr⟩
 ·obtain rfl:l=[]:=N9 hn
  exact run_convert_bytes_nil (P:=prog) w 130 5 Tryz.underlying130 Tryz.underlying5 0 0 9 Tryz.underlying9
 ·have:=run_convert_bytes_arg (P:=prog) w 130 5 Tryz.underlying130 Tryz.underlying5 b off l.length cap (l.map λb:UInt8=>(b.toNat:Int)) (by simp) (λi hi=>by
   refine hr i _ ?_
   simp [u8s,hi]) 9 Tryz.underlying9
  rw [this,Vu]
def QL(ts:List (List UInt8))(k:Nat):Nat:=(ts.take k).flatten.length
theorem Jy {ts:List (List UInt8)}{k:Nat}{x:List UInt8}(h:ts[k]?=some x):QL ts (k+1)=QL ts k+x.length:=by
 unfold QL;rw [Jw ts k x h,N1]
theorem Vv(ts:List (List UInt8))(k:Nat):QL ts k<=QL ts ts.length:=by
 have:=zaJ ts k;simpa [QL] using this
theorem zch(v:Value)(ts:List (List UInt8))(w:World)(hv:Src w v 1 ts.length (yB ts))(h0:0<ts.length)(hl:ts.length<=1000000)(hb:QL ts ts.length<=1073741824):Calls prog 110 #[v] w λe w'=>
 e=.returned (.string (bs ts.flatten))/\Below w.heap.size w w':=by
 obtain⟨i0,hi,hz0,hz1,hz2⟩:=info_parts zgh.info
 rcases hv.2 with⟨rfl,hn⟩|⟨b,off,cap,rfl,hc,hr⟩
 ·omega
 ·clear hv h0
  go_enter func110,ntmps110
  go_wp2
  go_loop [3,11] (λp3 p11=>∃k:Nat,k<=ts.length/\p11=.int .i64 k/\p3=.int .i64 (QL ts k:Nat)) (λ_ p11=>ts.length - (RowKit.intOf p11).toNat)
  case atStart=>exact⟨0,Nat.zero_le _,rfl,rfl⟩
  case round=>
   obtain⟨k,hk,rfl,rfl⟩:=hrel
   by_cases hlt:k<ts.length
   ·obtain⟨x,hx⟩:∃x,ts[k]?=some x:=⟨_,N3 hlt⟩
    have hc0:w.cell? ⟨b,off+k,none⟩=some (.string (bs x)):=hr k _ (by simp [yB,hx]);have hl1:=Vv ts k;have hl2:=Vv ts (k+1);have hfl:=Jy hx;have hxs:=zC x;rw [hfl] at hl2;have hlx:((bs x).size:Int)<=1073741824:=by rw [hxs];omega
    replace hfl:=G hfl;replace hxs:=G hxs;replace hx:=G hx;clear hr;go_wp2
    go_round
    case rel=>exact⟨k+1,by omega,by go_num,by rw [hfl.out];have:=hxs.out;go_num⟩
    case measure=>simp [RowKit.intOf];omega
   ·obtain rfl:k=ts.length:=by omega
    replace hr:=G hr;obtain⟨w1,hmk,hown1,hgr1⟩:=run_make_own (P:=prog) w w.heap.size 130 5 i0 (.int .u8 0) 1 zgh.under hi hz0 hz1 .i64 .i64 (QL ts ts.length) (by rw [hz2];omega) (by unfold maxLen;omega) (N0 _);have hb1:Below w.heap.size w w1:=(N2 _ _).grown hgr1 (N0 _) (λ_ h=>by cases h);clear hgr1 hi hz0 hz1 hz2;go_wp2;clear hmk
    go_loopw [6,24] (λp6 p24 wr=>∃k:Nat,k<=ts.length/\p24=.int .i64 k/\wr.ownsRow w.heap.size 5 1 p6 (ts.take k).flatten.length (u8s (ts.take k).flatten)/\Below w.heap.size w wr) (λ_ p24 _=>ts.length - (RowKit.intOf p24).toNat)
    case atStart=>exact⟨0,Nat.zero_le _,rfl,hown1,hb1⟩
    case round=>
     obtain⟨k,hk,rfl,hown,hbw⟩:=hrel;clear hown1 hb1
     by_cases hlt:k<ts.length
     ·obtain⟨x,hx⟩:∃x,ts[k]?=some x:=⟨_,N3 hlt⟩
      have hc0:wr.cell? ⟨b,off+k,none⟩=some (.string (bs x)):=(hbw.cell (jH (hr.out k (.string (bs x)) (by simp [yB,hx])))).trans (hr.out k _ (by simp [yB,hx]));have hfl:=Jw ts k x hx
      have hle:(ts.take k).flatten.length+x.length<=1073741824:=by
       have h1:=Vv ts (k+1);rw [Jy hx] at h1;have h2:QL ts k=(ts.take k).flatten.length:=rfl;omega
      replace hfl:=G hfl;replace hle:=G hle;replace hx:=G hx
      generalize hacc:(ts.take k).flatten=acc at*
      replace hacc:=G hacc
      go_wp2_with (at_builtin
                   obtain⟨v',w2,hrun,hrow,hgr⟩:=zcg hown hle.out hbw.size 130;refine Ye rfl _ _ _ _ rfl rfl rfl hrun ?_
                   have hbw2:=hbw.grown hgr hbw.size (λg hg=>by
                    rcases hown.2 with⟨h,_⟩|⟨g',c',cu,h,hb',_⟩
                    ·rw [h] at hg;cases hg
                    ·rw [h] at hg;cases hg;exact hb')
                   clear hrun hgr)
      go_roundw
      case rel=>exact⟨k+1,by omega,by go_num,by rw [hfl.out];exact hrow,hbw2⟩
      case measure=>simp [RowKit.intOf];omega
     ·obtain rfl:k=ts.length:=by omega
      rw [List.take_length] at hown;have hcv:=X6 (zjr hown);clear hown hc hr;go_wp2;go_ret
      exact⟨rfl,hbw⟩
end
section
open Go Go.RowKit Go.Shelf Go.Extern.Stop Go.Stop Go.Extern
attribute [local go_sem] Oper.semAt_some zw zn
theorem vO.wait {b:vl}(h:vO b){m:zD}(hm:zG m=true):vO {b with ws:=put m.1 m b.ws} :=by
 refine⟨h.sixteen,h.most,?_⟩;intro p hp;have hk:=h.keys
 generalize b.ws=l at hp hk
 have hp':p∈put m.1 m l:=hp;clear hp
 induction l with
 |nil=>simp [put] at hp';subst hp';exact⟨rfl,hm⟩
 |cons q l ih=>
  obtain⟨k,v⟩:=q;unfold put at hp'
  split at hp'
  ·rcases List.mem_cons.1 hp' with rfl|h1
   ·exact⟨rfl,hm⟩
   ·exact hk p (U7 _ h1)
  ·rcases List.mem_cons.1 hp' with rfl|h1
   ·exact hk _ (List.mem_cons_self ..)
   ·exact ih (λq hq=>hk q (U7 _ hq)) h1
theorem zez(mb:Nat)(w:World):(binOp .eql 310 (.map (some mb)) (.map none)).run prog w=.ok (.bool false) w:=by kernel_rfl
theorem zh2(B:Nat)(b:vl)(t:List Nat)(ow:Own)(m:zD)(hm:zG m=true)(w:World)(hb:jM B b t ow w):Calls prog 292 #[.pointer (some ⟨B,0,none⟩),vz m] w λe w'=>
 e=.returned (.tuple #[])/\∃ow',zq t ow w ow' w'/\jM B (if zgd b m.1 then b else {b with ws:=put m.1 m b.ws}) t ow' w':=by
 obtain⟨⟨i,c⟩,d⟩:=m;have hb0:=hb;obtain⟨hok,lv,mb,hB,hR,hM,o1,o2,o3⟩:=hb;have hnil:=zez mb
 cases hh:zgd b (i,c)
 ·unfold vz
  go_enter func292,ntmps292
  go_wp2_with (first
   |(go_at_call 295;refine(zgf B b t ow _ _ _ ((jM.loc B b t).below hb0 (pbx))).mono ?_;rintro e w1 ⟨rfl,hb1⟩
     have k0:Blk w1 w.heap.size #[.int .i64 i,.int .u32 c,.string (bs d)] 34:=Blk.call (bkx) hb1;have hBw:Below w.heap.size w w1:=pbx;have c0:=k0.cell;have cB:w1.cell? ⟨B,17,none⟩=some (.map (some mb)):=((hB.call hBw).cell 17).trans (xw b.tk lv mb hok.sixteen);have hM1:zU w1.drew mb idV (b.ws.map λp=>(p.1,vz p.2)):=hM.kept (hBw.block mb hM.lt);obtain⟨o,hup,hM2⟩:=hM1.update QK Tryz.underlying310 (i,c) (.agg #[.int .i64 i,.int .u32 c,.string (bs d)])
     unfold idV at hup))
  go_region
  go_wp2;go_end0
  refine⟨rfl,ow,(zq.of_below t ow (zo hBw)).trans (zq.putObj _ mb o (by rw [o2];exact Sub.rfl' t)),hok.wait hm,lv,mb,(hB.call hBw).drew.putObj (hB.ne_map hM) o,?_,?_,o1,o2,o3⟩
  ·exact hR.kept (λg hg=>(U1 (hR.ne_map hM hg)).trans (hBw.block g (hR.lt hg)))
  ·have hM3:zU (w1.drew.putObj mb o) mb idV (put (i,c) (vz ((i,c),d)) (b.ws.map λp=>(p.1,vz p.2))):=hM2
   rw [q9 vz] at hM3;exact hM3
 ·unfold vz
  go_enter func292,ntmps292
  go_wp2_with (go_at_call 295;refine(zgf B b t ow _ _ _ ((jM.loc B b t).below hb0 (pbx))).mono ?_;rintro e w1 ⟨rfl,hb1⟩)
  refine bodyPost_ret (results_none rfl _ _ _) rfl ?_;have hBw:Below w.heap.size w w1:=pbx;exact⟨rfl,ow,zq.of_below t ow hBw,(jM.loc B b t).below hb0 hBw⟩
theorem zb6:Ju prog 57 34 3 32 (.agg #[.int .i64 0,.int .u32 0,.string ⟨#[]⟩]):=⟨Tryz.underlying57,by kernel_rfl,rfl,by decide,by decide⟩
theorem jp(l:List zD):∀u∈l.flatMap zh,u.oneCell'=true:=by
 intro u hu;obtain⟨m,_,hm⟩:=List.mem_flatMap.1 hu;simp [zh] at hm
 rcases hm with rfl|rfl|rfl<;>rfl
theorem zaK(l:List zD):(l.flatMap zh).length=l.length*3:=by
 induction l with
 |nil=>rfl
 |cons m l ih=>simp [List.flatMap_cons,zh,ih];omega
theorem zaL(w:World):(binOp .eql 57 (.slice none 0 0) (.slice none 0 0)).run prog w=.ok (.bool true) w:=by kernel_rfl
theorem zci(a:Addr)(n c:Nat)(w:World):(binOp .eql 57 (.slice (some a) n c) (.slice none 0 0)).run prog w=.ok (.bool false) w:=by kernel_rfl
theorem zdG(w:World)(e:TypeId)(size:Nat):Row (w.alloc (.cells #[] e)) e size (.slice (some ⟨w.heap.size,0,none⟩) 0 0) 0 []:=
 ⟨by simp,.inr ⟨w.heap.size,0,#[],rfl,Nat.zero_le _,World.alloc_heap_new w _,N0 _,Nat.zero_le _,by simp,by simp⟩⟩
theorem Vw(v:Value)(l:List zD)(w:World)(hv:Src w v 3 l.length (l.flatMap zh))(hb:l.length<=1073741824):Calls prog 41 #[v] w λe w'=>
 ∃v',e=.returned v'/\Row w' 34 3 v' l.length (l.flatMap zh)/\Below w.heap.size w w'/\(∀g,v'.ownBlock=some g->w.heap.size<=g):=by
 have hyes:=zaL w;have hno:=λa n c=>zci a n c w
 have hv0:=hv
 rcases hv.2 with⟨rfl,h0⟩|⟨b,off,cap,rfl,hc,hr⟩
 ·obtain rfl:l=[]:=N9 h0
  go_enter func41,ntmps41
  go_wp2;go_ret
  exact⟨_,rfl,zX _ _ _,N2 _ _,by simp [Value.ownBlock]⟩
 ·clear hr hv
  replace hv0:=G hv0;replace hb:=G hb
  go_enter func41,ntmps41
  go_wp2_with (at_builtin
               obtain⟨v',w',hrun,hrow,hgr,hown⟩:=zI zb6 (zdG w 34 3) (Src.below (Hid.out hv0) ((N2 _ _).alloc (N0 _) _)) (jp l) (by have:=hb.out;omega) 57
               refine zu rfl _ _ _ rfl rfl rfl hrun ?_)
  go_ret
  refine⟨_,rfl,by simpa using hrow,((N2 _ _).alloc (N0 _) _).grown hgr (by simp) (λk hk=>by simp [Value.ownBlock] at hk;omega),λg hg=>?_⟩;have hg':v'.ownBlock=some g:=hg
  rcases hown with h1|h1<;>rw [hg'] at h1<;>simp [Value.ownBlock] at h1<;>omega
theorem zjs(B:Nat)(m:zD)(w:World):Calls prog 293 #[.pointer (some ⟨B,0,none⟩),vz m] w λe w'=>
 e=.returned (.func (.func 296) #[] #[.pointer (some ⟨w.heap.size+1,0,none⟩),.pointer (some ⟨w.heap.size,0,none⟩)])/\
 w'=(w.alloc (.cells #[.pointer (some ⟨B,0,none⟩)] 235)).alloc (.cells #[.int .i64 m.1.1,.int .u32 m.1.2,.string (bs m.2)] 34):=by
 unfold vz
 go_enter func293,ntmps293
 go_wp2;go_ret
 exact⟨rfl,rfl⟩
theorem xx {V:Type}{k:MId}{v:V} :∀ {l:List (MId×V)},zJ k l=some v->(k,v)∈l
 | [],h=>by cases h
 |(k',v')::l,h=>by
  unfold zJ at h
  split at h
  ·rename_i hk;cases h;subst hk;exact List.mem_cons_self ..
  ·exact U7 _ (xx h)
theorem zcj {V:Type}(k:MId):∀(l:List (MId×V)),∀p∈del k l,p∈l
 | [],p,h=>by cases h
 |(k',v')::l,p,h=>by
  unfold del at h
  split at h
  ·exact U7 _ h
  ·rcases List.mem_cons.1 h with rfl|h1
   ·exact List.mem_cons_self ..
   ·exact U7 _ (zcj k l p h1)
def zb7(ws:List (MId×zD)):Prop:=∀p∈ws,p.2.1=p.1/\zG p.2=true
theorem zb7.del {ws:List (MId×zD)}(h:zb7 ws)(k:MId):zb7 (del k ws):=λp hp=>h p (zcj k ws p hp)
def zh3:zD:=((0,0),[])
def qB(v:Value)(o:Nat)(w:World):Value:=match v with| .pointer (some a)=>(w.cell? ⟨a.block,o,none⟩).getD undef|_=>undef
def zjt(p4 p5:Value)(wr:World):Nat:=match p5 with| .bool true=>4294967296 - (intOf (qB p4 1 wr)).toNat|_=>0
theorem zh4(bm bb B mb:Nat)(m:zD)(ws0:List (MId×zD))(hok0:zb7 ws0)(hm:zG m=true):
 XE Fence.wide 2 prog 296 #[.pointer (some ⟨bm,0,none⟩),.pointer (some ⟨bb,0,none⟩)] (λx:zD=> #[vz x])
  (λ(s:List (MId×zD)×Option zD) x=>s.2=some x/\zG x=true/\zb7 s.1) (λs x=>(del x.1 s.1,zJ (x.1.1,(x.1.2+1)% 4294967296) (del x.1 s.1))) (λs=>s.2=none)
  (λs W=>Blk W bm #[.int .i64 m.1.1,.int .u32 m.1.2,.string (bs m.2)] 34/\W.cell? ⟨bb,0,none⟩=some (.pointer (some ⟨B,0,none⟩))/\W.cell? ⟨B,17,none⟩=some (.map (some mb))/\zU W mb idV (s.1.map λp=>(p.1,vz p.2))) (ws0,some m):=by
 intro l J Jx W hJ hJx hRd hY h0;obtain⟨r0,r1,r2,r3⟩:=hRd _ _ _ h0;have c0:=r0.cell;have f0:=r0.lt;have hF:Fence.wide.fn 296:=trivial;have hro:Fence.wide.round=none:=rfl;refine callsIn_of_wp func296 rfl hF ?_ hro;simp only [ntmps296,R8,Nat.reduceAdd,Nat.reduceSub]
 gi_wp2
 gi_loopw [4,5] (λp4 p5 wr=>∃(ws:List (MId×zD)) (o:Option zD) (X:Nat->Prop) (cb:Nat),p4=.pointer (some ⟨cb,0,none⟩)/\p5=.bool o.isSome/\
  Blk wr cb #[.int .i64 (o.getD zh3).1.1,.int .u32 ((o.getD zh3).1.2:Nat),.string (bs (o.getD zh3).2)] 34/\X cb/\zb7 ws/\zG (o.getD m)=true/\J (ws,o) X wr)
  (λp4 p5 wr=>zjt p4 p5 wr)
 case atStart=>exact⟨ws0,some m,λk=>False∨k=W.heap.size,W.heap.size,rfl,rfl,Blk.new rfl,.inr rfl,hok0,hm,hJ.alloc (.cells #[.int .i64 m.1.1,.int .u32 m.1.2,.string (bs m.2)] 34) h0⟩
 case round=>
  clear r0 r1 r2 r3 c0 f0;obtain⟨ws,o,X,cb,rfl,rfl,hcb,hX,hws,hrm,hJs⟩:=hrel
  cases o with
  |none=>
   gi_wp2
   go_end0
   exact⟨⟨_,rfl⟩,.inl ⟨(ws,none),X,rfl,hJs⟩⟩
  |some x=>
   obtain⟨⟨i,c⟩,d⟩:=x;have c0:=hcb.cell;simp only [Option.getD_some] at c0;obtain⟨fn,tmps,assign,body,hy,hR⟩:=hY (ws,some ((i,c),d)) ((i,c),d) X _ hJs ⟨rfl,hrm,hws⟩;unfold vz at hy
   gi_wp2
   refine hR.mono ?_;rintro e W'(⟨rfl,hJ',hsv⟩|⟨rfl,hx'⟩)
   ·clear c0 hR hy
    obtain⟨-,r1,r2,r3⟩:=hRd _ _ _ hJ';have kcb:Blk W' cb #[.int .i64 i,.int .u32 c,.string (bs d)] 34:=hcb.kept (hsv.2 cb hX hcb.lt);have c0:=kcb.cell;have g0:=kcb.frozen;have lcb:=kcb.lt;have hcast:(((c+1)% 4294967296:Nat):Int)=((c:Int)+1)% 4294967296:=by omega
    obtain⟨y,hy⟩:∃y,zJ (i,(c+1)% 4294967296) (del (i,c) ws)=y:=⟨_,rfl⟩;have hlk:=(r3.kept (w':=W'.drew) rfl).lookup_ok QK Tryz.underlying310 (zdF W'.drew) (i,(c+1)% 4294967296);rw [vD,Option.isSome_map,hy] at hlk;obtain⟨ym,hym⟩:∃ym,y.getD zh3=ym:=⟨_,rfl⟩;have hyk:Hid (∀z,y=some z->z.1=(i,(c+1)% 4294967296)):=λz hz=>((hws.del (i,c)) _ (xx (hy.trans hz))).1
    have hry:Hid (zG (y.getD m)=true):=by
     cases hyy:y with
     |none=>exact hm
     |some z=>exact((hws.del (i,c)) _ (xx (hy.trans hyy))).2
    replace hy:=G hy;replace hym:=G hym
    have hv:(y.map vz).getD (.agg #[.int .i64 0,.int .u32 0,.string ⟨#[]⟩])=.agg #[.int .i64 ym.1.1,.int .u32 ym.1.2,.string (bs ym.2)]:=by
     rw [← hym.out];cases y<;>rfl
    rw [hv] at hlk;unfold idV at hlk;rw [hcast] at hlk;have hlk2:=hlk;rw [show((c:Int)+1)% 4294967296=IntKind.u32.wrap ((c:Int)+1)from(IntKind.wrap_u32 _).symm] at hlk2;clear hv r3
    gi_wp2
    refine wpIn_wide.2 ?_
    go_region
    gi_wp2
    go_roundw
    case rel=>
     refine⟨del (i,c) ws,y,λk=>X k∨k=W'.heap.size,W'.heap.size,rfl,rfl,?_,.inr rfl,hws.del _,hry.out,?_⟩
     ·rw [hym.out];exact(Blk.new (by simp)).drew
     ·rw [hy.out] at hJ'
      exact hJ _ _ _ _ _ hJ' (((((Mod.refl X W').thenSet hX _).thenSet hX _).thenSet hX _).thenAlloc _).thenDrew (λk hk=>by
       rcases hk with h|h
       ·exact .inl h
       ·right;subst h;simp)
    case measure=>
     have e1:qB (.pointer (some ⟨cb,0,none⟩)) 1 wr=.int .u32 (c:Int):=by
      show(wr.cell? ⟨cb,1,none⟩).getD undef=_
      rw [hcb.cell 1];rfl
     have hc4:c<=4294967294:=by
      have h1:zG ((i,c),d)=true:=hrm;simp [zG] at h1;exact h1.2
     cases y with
     |none=>
      show 0<4294967296 - (intOf (qB (.pointer (some ⟨cb,0,none⟩)) 1 wr)).toNat
      rw [e1];simp only [intOf];omega
     |some z=>
      have hz:=hyk.out z rfl;have hzm:ym=z:=hym.out.symm
      have e2:qB (.pointer (some ⟨W'.heap.size,0,none⟩)) 1 ((((W'.setCell ⟨cb,0,none⟩ (.int .i64 ym.1.1)).setCell ⟨cb,1,none⟩ (.int .u32 ym.1.2)).setCell ⟨cb,2,none⟩ (.string (bs ym.2))).alloc (.cells #[.int .i64 ym.1.1,.int .u32 ym.1.2,.string (bs ym.2)] 34)).drew=.int .u32 (ym.1.2:Int):=by
       have hk:Blk ((((W'.setCell ⟨cb,0,none⟩ (.int .i64 ym.1.1)).setCell ⟨cb,1,none⟩ (.int .u32 ym.1.2)).setCell ⟨cb,2,none⟩ (.string (bs ym.2))).alloc (.cells #[.int .i64 ym.1.1,.int .u32 ym.1.2,.string (bs ym.2)] 34)).drew W'.heap.size #[.int .i64 ym.1.1,.int .u32 ym.1.2,.string (bs ym.2)] 34:=(Blk.new (by simp)).drew
       show(World.cell? _ ⟨W'.heap.size,1,none⟩).getD undef=_
       rw [hk.cell 1];rfl
      show 4294967296 - (intOf (qB (.pointer (some ⟨W'.heap.size,0,none⟩)) 1 _)).toNat<4294967296 - (intOf (qB (.pointer (some ⟨cb,0,none⟩)) 1 wr)).toNat
      rw [e1,e2];simp only [intOf];rw [hzm,hz];simp only;omega
   ·gi_wp2
    refine bodyPost_ret (results_none rfl _ _ _) rfl ?_;exact⟨⟨_,rfl⟩,.inr ⟨_,hx'⟩⟩
end
open Go Go.RowKit Go.Shelf Go.Extern.Stop Go.Stop Go.Extern Go.Lib
attribute [local go_sem] Oper.semAt_some zw zn
def Zz(m:zD):List (List UInt8):=[[UInt8.ofNat (m.1.1 % 256).toNat],le4 m.1.2,le4 m.2.length,m.2]
def jK(n:Nat)(l:List zD):List (List UInt8):=[UInt8.ofNat (n % 256)]::l.flatMap Zz
theorem ZT(n:Nat)(l:List zD):(jK n l).flatten=[UInt8.ofNat (n % 256)] ++l.flatMap jo:=by
 unfold jK;rw [List.flatten_cons]
 congr 1
 induction l with
 |nil=>rfl
 |cons m l ih=>simp [List.flatMap_cons,Zz,jo,ih]
theorem YE(a b:List (List UInt8)):yB (a++b)=yB a++yB b:=by simp [yB]
theorem YF(l:List zD):(l.flatMap Zz).length=4*l.length:=by
 induction l with
 |nil=>rfl
 |cons y ll ih=>rw [List.flatMap_cons,N1,ih];simp [Zz];omega
theorem Ze:∀(l:List zD),(∀x∈l,zG x=true)->(l.flatMap jo).length<=1009*l.length
 | [],_=>by simp
 |m::l,h=>by
  have ih:=Ze l (λx hx=>h x (U7 _ hx));have hm:=h m (List.mem_cons_self ..);simp [zG] at hm
  rw [List.flatMap_cons,N1,List.length_cons];have:(jo m).length=9+m.2.length:=by simp [jo,jb];omega
  omega
def zdH(l:List zD)(n pb rb cb:Nat)(v:Value)(W0:World)(k:Nat)(X:Nat->Prop)(W:World):Prop:=
 Fr (λk=>k=pb∨k=rb∨k+1=pb) W0 X W/\Blk W cb #[v] 57/\k<=l.length/\(∀x∈l.take k,zG x=true)/\
  Blk W rb #[.bool true] 4/\∃pv,Blk W pb #[pv] 167/\Row W 9 1 pv (jK n (l.take k)).length (yB (jK n (l.take k)))/\(∀g,pv.ownBlock=some g->(g+1=pb∨W0.heap.size<=g)/\¬X g)
theorem zdH.stab {l:List zD}{n pb rb cb:Nat}{v:Value}{W0:World}{k:Nat}{X X':Nat->Prop}{W W':World}(h1:pb<W0.heap.size)(h2:rb<W0.heap.size)(h3:cb<W0.heap.size)
 (h:zdH l n pb rb cb v W0 k X W) (hm:Mod X W W') (hx:∀k,X' k->X k∨(W.heap.size<=k/\k<W'.heap.size)):zdH l n pb rb cb v W0 k X' W':=by
 obtain⟨hfr,kc,hk,hr,kr,pv,kp,kw,hn⟩:=h;refine⟨hfr.step hm hx,kc.kept (hfr.block hm h3),hk,hr,kr.kept (hfr.block hm h2),pv,kp.kept (hfr.block hm h1),kw.mod hm (λg hg=>(hn g hg).2),λg hg=>⟨(hn g hg).1,λhX=>?_⟩⟩
 rcases hx g hX with h|h
 ·exact(hn g hg).2 h
 ·have:=kw.lt hg;omega
theorem zdI(v:Value)(l:List zD)(w:World)(hv:Src w v 3 l.length (l.flatMap zh))(hl:l.length<=1073741824):Calls prog 81 #[v] w λe w'=>
 e=.returned (.tuple #[.string (bs (yA l).1),.int .i64 (yA l).2])/\Below w.heap.size w w':=by
 obtain⟨sa,sn,sc,rfl,rfl⟩:∃a n c,v=.slice a n c/\n=l.length:=by
  rcases hv.2 with⟨rfl,h⟩|⟨b,off,cap,rfl, -⟩
  ·exact⟨_,_,_,rfl,h.symm⟩
  ·exact⟨_,_,_,rfl,rfl⟩
 by_cases h64:64<l.length
 ·have hp:yA l=([],101):=by unfold yA;rw [if_pos h64]
  have t0:decide (64<(l.length:Int))=true:=by simp;omega
  rw [hp];clear hp hv h64;refine zl func81 rfl ?_;simp only [ntmps81,R8,Nat.reduceAdd,Nat.reduceSub];go_wp2;go_step3;go_wp2;rw [Exit.noGoto_ret];exact jw (v:=.tuple #[.string (bs []),.int .i64 101]) (by simp [results,Tryz.results81,go_sem,bs]) ⟨rfl,pbx⟩
 ·have t0:decide (64<(l.length:Int))=false:=by simp;omega
  have hcv:∀(W:World)(b:Nat)(n:Int),W.cell? ⟨b,0,none⟩=some (.int .u8 n)->(convert 130 9 (.slice (some ⟨b,0,none⟩) 1 1)).run prog W=.ok (.string (strOfNums [n])) W:=λW b n h=>
   run_convert_bytes_arg W 130 5 Tryz.underlying130 Tryz.underlying5 b 0 1 1 [n] rfl (λi hi=>by obtain rfl:i=0:=(by omega);exact h) 9 Tryz.underlying9
  have hcv0:=hcv (w.alloc (.cells #[.int .u8 (l.length:Int)] 5)) w.heap.size l.length (by simp);replace hcv:=G hcv;replace hv:=G hv;refine zl func81 rfl ?_;simp only [ntmps81,R8,Nat.reduceAdd,Nat.reduceSub];go_wp2;go_step3;go_wp2;go_step3
  go_wp2_with (go_at_call 108;refine(X4 _ ⟨_,_,_,rfl⟩ _).mono ?_;rintro e w1 ⟨rfl,rfl⟩)
  obtain⟨W0,hW0⟩:∃W0,W0=((((w.alloc (.cells #[.int .u8 (l.length:Int)] 5)).alloc (.cells #[.string (strOfNums [(l.length:Int)])] 9)).alloc (.cells #[.slice (some ⟨w.heap.size+1,0,none⟩) 1 1] 167)).alloc (.cells #[.bool true] 4)).alloc (.cells #[.slice sa l.length sc] 57):=⟨_,rfl⟩;rw [← hW0];obtain⟨pb,hpb⟩:∃pb,pb=w.heap.size+1+1:=⟨_,rfl⟩;rw [← hpb];have hsz:W0.heap.size=pb+3:=by rw [hW0,hpb];simp
  have hb0:Below w.heap.size w W0:=by rw [hW0];exact pbx
  have kp:Blk W0 pb #[.slice (some ⟨w.heap.size+1,0,none⟩) 1 1] 167:=by rw [hW0];exact((Blk.new (by simp [hpb])).alloc _).alloc _
  have kr:Blk W0 (pb+1) #[.bool true] 4:=by rw [hW0];exact(Blk.new (by simp [hpb])).alloc _
  have kc:Blk W0 (pb+1+1) #[.slice sa l.length sc] 57:=by rw [hW0];exact Blk.new (by simp [hpb])
  have hs1:strOfNums [(l.length:Int)]=bs [UInt8.ofNat (l.length % 256)]:=by
   unfold strOfNums bs;rw [Jn];simp
  have kw:Row W0 9 1 (.slice (some ⟨w.heap.size+1,0,none⟩) 1 1) (jK l.length (l.take 0)).length (yB (jK l.length (l.take 0))):=by
   have k1:Blk W0 (w.heap.size+1) #[.string (bs [UInt8.ofNat (l.length % 256)])] 9:=by rw [hW0,hs1];exact(((Blk.new (by simp)).alloc _).alloc _).alloc _
   exact⟨rfl,.inr ⟨w.heap.size+1,1,_,rfl,Nat.zero_le _,k1,N0 _,by decide,rfl,rfl⟩⟩
  have hv0:=hv.out.below hb0;have hpw:w.heap.size+2<=pb:=by omega
  replace hpb:=G hpb;clear hcv0 hs1
  refine yR (gf:=144) (lb:=#[.pointer (some ⟨pb+1+1,0,none⟩)]) rfl (enters_of func144 (by kernel_rfl) rfl)
   (Vt (pb+1+1) (.slice sa l.length sc) l hl) (λ_=>rfl)
   (λk X W=>zdH l l.length pb (pb+1) (pb+1+1) (.slice sa l.length sc) W0 k X W)
   (λc X W=>c=.exit 0/\(∃x∈l,zG x=false)/\Fr (λk=>k=pb∨k=pb+1∨k+1=pb) W0 X W/\Blk W (pb+1) #[.bool false] 4)
   (λk X X' W W' h hm hx=>h.stab (by omega) (by omega) (by omega) hm hx)
   (λc s X X' W W' h hm hx=>⟨h.1,h.2.1,h.2.2.1.step hm hx,h.2.2.2.kept (h.2.2.1.block hm (by omega))⟩)
   (λk X W h=>⟨h.2.1,hv.out.below (hb0.trans (h.1.below (by omega) (λk hk=>by omega)))⟩)
   (λk X W h=>⟨h.1.2.size,λk hk=>(h.1.1 k hk).2⟩)
   ⟨Fr.refl _ _,kc,Nat.zero_le _,by simp,kr,_,kp,kw,by intro g hg;simp [Value.ownBlock] at hg;subst hg;have:=hpb.out;exact⟨.inl (by omega),id⟩⟩
   6 34 (λx=> #[.int .i64 x.1.1,.int .u32 x.1.2,.string (bs x.2)]) ?assign ?body ?done ?stop
  case assign=>
   intro l' x W K hK;rw [zR] at hK⊢;unfold vz at hK⊢
   gi_wp2
   exact hK
  case body=>
   rintro l' k x cb X X1 W1 W h1 h hnx hcb hcw hXc kx hXl _;obtain⟨hfr,kc',hk,hrt,kr',pv,kp',kw',hn⟩:=h;obtain⟨⟨i,c⟩,d⟩:=x;have e0:=kx.cell;simp only at e0;rw [zR];unfold vz;have lr:=kr'.lt;have lc:=kx.lt;have lp:=kp'.lt
   cases hr:zG ((i,c),d)
   ·gi_wp2_with (gi_at_call 80;refine(inRound _ _ (vF _ _ _ _)).mono ?_;rintro e w1 ⟨rfl,hb1⟩;have kr1:=kr'.call hb1;have er:=kr1.cell;have fr:=kr1.frozen;rw [hr])
    have hm:Mod (λk=>k=pb+1) W (w1.setCell ⟨pb+1,0,none⟩ (.bool false)):=(Mod.of_below (λk=>k=pb+1) hb1).thenSet (p:=⟨pb+1,0,none⟩) rfl _;refine⟨⟨rfl,⟨((i,c),d),List.mem_of_getElem? hnx,hr⟩,hfr.mod hm (λk _ h=>.inr (.inl h)),kr1.set _⟩,ju.of_mod hm (λk _ hX he=>by have:=hfr.1 k hX;omega)⟩
   ·obtain⟨xk,rfl,hxk⟩:∃k:Nat,i=k/\k<16:=by
     have:=hr;simp [zG] at this
     exact⟨i.toNat,by omega,by omega⟩
    have hxi:(xk:Int)<16:=by omega
    gi_wp2_with (gi_at_call 80
                 refine(inRound _ _ (vF _ _ _ _)).mono ?_;rintro e w1⟨rfl,hb1⟩;have kx1:=kx.call hb1;have ex:=kx1.cell;have lx1:=kx1.lt;have hcv1:=hcv.out (w1.alloc (.cells #[.int .u8 (xk:Int)] 5)) w1.heap.size xk (by simp)
                 rw [hr])
    obtain⟨W2,hW2⟩:∃W2,W2=w1.alloc (.cells #[.int .u8 (xk:Int)] 5):=⟨_,rfl⟩;rw [← hW2];have hb2:Below W.heap.size W W2:=by rw [hW2];exact zg hb1 _
    have kx2:=kx.call hb2;have kp2:=kp'.call hb2
    have hds:((bs d).size:Int)<=1000:=by
     have:=hr;simp [zG] at this
     rw [zC];omega
    clear ex hcv1 lx1 kx1 e0 hW2;refine jy [O 0,O 1,O 2,O 3,O 4,O 6,O 7,O 8,O 9,O 11,O 12,E 5,E 10,E 13,E 14,E 15] (some 15) (λw'=>Blk w' cb #[.int .i64 (xk:Int),.int .u32 (c:Int),.string (bs d)] 34/\Blk w' pb #[pv] 167/\True) (by kernel_rfl) (by kernel_rfl) ⟨kx2.drew,kp2.drew,trivial⟩ ?_
    (repeat (refine za (v:=?_) rfl rfl (λw' h=>?_) (λK k=>?_);rotate_left;obtain⟨f1,f2,_⟩:=h;have e1:=f1.cell;have e2:=f2.cell;go_simp;(try with_reducible rfl);go_simp;refine k _ ?_;clear k K))
    replace kx2:=kx2.drew;replace kp2:=kp2.drew;refine zc rfl (λK hK=>?_)
    go_wp2_with (go_at_call 109;refine(yF _ _).mono ?_;rintro e w3 ⟨rfl,hb3⟩)
    refine hK.out _ _ (λ_=>⟨kx2.call hb3,kp2.call hb3,trivial⟩) ?_;clear hK K;have kx3:=kx2.call hb3;have kp3:=kp2.call hb3;refine zc rfl (λK hK=>?_)
    go_wp2_with (go_at_call 109;refine(yF _ _).mono ?_;rintro e w4 ⟨rfl,hb4⟩)
    refine hK.out _ _ (λ_=>⟨kx3.call hb4,kp3.call hb4,trivial⟩) ?_;clear hK K;have kx4:=kx3.call hb4;have kp4:=kp3.call hb4;refine zc rfl (λK hK=>?_);go_wp2;obtain⟨w5,hw5⟩:∃w5,w5=w4.alloc (.cells #[.string (strOfNums [(xk:Int)]),.string (bs (le4 c)),.string (bs (le4 (bs d).size)),.string (bs d)] 9):=⟨_,rfl⟩;have k5:Blk w5 w4.heap.size #[.string (strOfNums [(xk:Int)]),.string (bs (le4 c)),.string (bs (le4 (bs d).size)),.string (bs d)] 9:=by rw [hw5];exact Blk.new rfl
    have kx5:=kx4.alloc (.cells #[.string (strOfNums [(xk:Int)]),.string (bs (le4 c)),.string (bs (le4 (bs d).size)),.string (bs d)] 9);have kp5:=kp4.alloc (.cells #[.string (strOfNums [(xk:Int)]),.string (bs (le4 c)),.string (bs (le4 (bs d).size)),.string (bs d)] 9);rw [← hw5] at kx5 kp5⊢;have hb5:Below W.heap.size W w5:=by rw [hw5];exact zg (zf (zf (zo hb2) hb3) hb4) _
    have h45:w4.heap.size<w5.heap.size:=by rw [hw5];simp
    refine hK.out _ _ (λ_=>⟨kx5,kp5,trivial⟩) ?_;clear hK K hw5
    have hsx:strOfNums [(xk:Int)]=bs [UInt8.ofNat ((xk:Int)% 256).toNat]:=by
     rw [Vn,Jn];unfold strOfNums bs;simp
    have hsd:=zC d;have hts:yB (Zz (((xk:Int),c),d))=[.string (strOfNums [(xk:Int)]),.string (bs (le4 c)),.string (bs (le4 (bs d).size)),.string (bs d)]:=by rw [hsx,hsd];rfl
    have hlen:(jK l.length (l.take k)).length+4<=1073741824:=by
     have h1:(l.take k).length<=64:=by rw [N7];omega
     have h2:=YF (l.take k);simp only [jK,List.length_cons,h2];omega
    have hpt:jK l.length (l.take (k+1))=jK l.length (l.take k)++Zz (((xk:Int),c),d):=by
     unfold jK;rw [List.take_add_one,hnx];simp [List.flatMap_append]
    replace hts:=G hts;replace hsd:=G hsd;replace hsx:=G hsx;replace hpt:=G hpt;replace hlen:=G hlen;refine zc rfl (λK hK=>?_);obtain⟨pv',w6,hrun,hrow,hgr,hown⟩:=zI zla (kw'.below hb5) (jB (n:=4) (size:=1) (cap:=4) k5 rfl (N0 4)) (by simp only [List.mem_cons,List.mem_nil_iff,or_false];rintro u (rfl|rfl|rfl|rfl)<;>rfl) hlen.out 167;refine zu rfl _ _ _ rfl rfl rfl hrun ?_;unfold wpList;have hpvB:∀g,pv.ownBlock=some g->g≠pb/\g≠pb+1/\g≠cb/\¬X g/\(g+1=pb∨W0.heap.size<=g):=λg hg=>⟨by have:=(hn g hg).1;omega,by have:=(hn g hg).1;omega,kw'.ne_blk kx (by decide) hg,(hn g hg).2,(hn g hg).1⟩
    have kx6:=kx5.kept (hgr.block cb kx5.lt (λe=>(hpvB cb e.symm).2.2.1 rfl));have kp6:=kp5.kept (hgr.block pb kp5.lt (λe=>(hpvB pb e.symm).1 rfl));refine hK.out _ _ (λ_=>⟨kx6,kp6,trivial⟩) ?_;clear hK K hrun;refine zc rfl (λK hK=>?_);obtain⟨va,vn,vc,rfl⟩:=hrow.shape;have ep6:=kp6.cell;have fp6:=kp6.frozen;replace hpvB:=G hpvB;replace hpw:=G hpw;go_wp2;refine hK.out _ _ (λh=>absurd rfl h) ?_;clear hK K ep6 fp6;refine ze ?_
    have hm:Mod (λk=>k=pb∨pv.ownBlock=some k) W (w6.setCell ⟨pb,0,none⟩ (.slice va vn vc)):=
     ((Mod.of_below (λk=>k=pb∨pv.ownBlock=some k) hb5).trans (Mod.grown hgr (λk h=>.inr h)) (λ_ _ e=>e) (λ_ _ e=>e)).thenSet (p:=⟨pb,0,none⟩) (.inl rfl) _
    have hb6:∀k,k<w5.heap.size->pv.ownBlock≠some k->k≠pb->(w6.setCell ⟨pb,0,none⟩ (.slice va vn vc)).heap[k]?=w5.heap[k]?:=λk hk h1 h2=>(N4 _ _ _ _ h2).trans (hgr.block k hk (λe=>h1 e.symm))
    refine⟨⟨hfr.mod hm (λk hk h=>?_),?_,?_,?_,?_,_,kp6.set _,?_,?_⟩,ju.of_mod hm (λk hk hX h=>?_)⟩
    ·rcases h with h|h
     ·exact .inl h
     ·rcases(hpvB.out k h).2.2.2.2 with h2|h2
      ·exact .inr (.inr h2)
      ·omega
    ·exact(kc'.call hb5).kept (hb6 _ (kc'.call hb5).lt (λe=>(by have:=(hpvB.out _ e).2.2.2.2;have:=hfr.2.size;omega)) (by omega))
    ·have:=(N6.1 hnx).1;omega
    ·intro y hy
     rw [List.take_add_one,hnx] at hy
     rcases List.mem_append.1 hy with h|h
     ·exact hrt y h
     ·simp at h;rw [h];exact hr
    ·exact(kr'.call hb5).kept (hb6 _ (kr'.call hb5).lt (λe=>(hpvB.out _ e).2.1 rfl) (by omega))
    ·rw [hpt.out,YE,N1,hts.out]
     exact Row.kept (w:=w6) hrow (λg hg=>N4 _ _ _ _ (show g≠pb from λe=>by
      rw [hg] at hown
      rcases hown with h|h
      ·exact(hpvB.out g h.symm).1 e
      ·have:=kp5.lt;simp at h;omega))
    ·intro g hg
     rw [hg] at hown
     rcases hown with h|h
     ·exact⟨(hpvB.out g h.symm).2.2.2.2,(hpvB.out g h.symm).2.2.2.1⟩
     ·simp at h
      have h1:=hfr.2.size;have h2:=hb5.size;exact⟨.inr (by omega),λhX=>by have:=(hfr.1 g hX).2;omega⟩
    ·have:=hfr.1 k hX
     rcases h with h|h
     ·omega
     ·exact(hpvB.out k h).2.2.2.1 hX
  case done=>
   rintro D k X W hD hXD hfin⟨hfr,kc',hk,hrt,kr',pv,kp',kw',hn⟩ hdef;obtain rfl:k=l.length:=hfin;rw [List.take_length] at hrt kw';have hall:l.all zG=true:=List.all_eq_true.2 hrt;have hp:yA l=([UInt8.ofNat (l.length % 256)] ++l.flatMap jo,0):=by unfold yA;rw [if_neg h64,if_pos hall]
   have hpl:QL (jK l.length l) (jK l.length l).length<=1073741824:=by
    unfold QL;rw [List.take_length,ZT];have:=Ze l hrt;simp only [N1,U2];omega
   have hpn:(jK l.length l).length<=1000000:=by
    have h2:=YF l;simp only [jK,List.length_cons,h2];omega
   have hj:=zch pv (jK l.length l) W kw'.src (by simp [jK]) hpn hpl;rw [ZT] at hj;have er:=kr'.cell;have ep:=kp'.cell;have hbW:Below w.heap.size w W:=hb0.trans (hfr.below (by omega) (λk h=>by omega));replace hp:=G hp;clear hall hpl hpn hrt;replace hj:=G hj
   go_wp2_with (go_at_call 110;refine hj.out.mono ?_;rintro e w2 ⟨rfl,hb2⟩)
   rw [Exit.noGoto_ret];refine zS (D:=D) (v:=.tuple #[.string (bs ([UInt8.ofNat (l.length % 256)] ++l.flatMap jo)),.int .i64 0]) ((hb2.block D (N5.1 hdef).1).trans hdef) (by simp [results,Tryz.results81,go_sem]) ⟨by rw [hp.out],zF (hbW.trans (hb2.mono hbW.size)) (by omega) _⟩
  case stop=>
   rintro D c X W hD hXD⟨rfl,hx,hfr,kr'⟩ hdef
   have hp:yA l=([],100):=by
    obtain⟨x,hx1,hx2⟩:=hx;have:¬l.all zG=true:=λh=>by have:=List.all_eq_true.1 h x hx1;rw [hx2] at this;cases this
    unfold yA;rw [if_neg h64,if_neg this]
   have er:=kr'.cell;have hbW:Below w.heap.size w W:=hb0.trans (hfr.below (by omega) (λk h=>by omega));replace hp:=G hp;clear hx;go_wp2;rw [Exit.noGoto_ret];refine zS (D:=D) (v:=.tuple #[.string (bs []),.int .i64 100]) hdef (by simp [results,Tryz.results81,go_sem,bs]) ⟨by rw [hp.out],zF hbW (by omega) _⟩
