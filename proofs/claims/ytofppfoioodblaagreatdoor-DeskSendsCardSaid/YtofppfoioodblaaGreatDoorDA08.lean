/- PARTS OF THE PROOF. -/
import Derived.Test.YtofppfoioodblaaGreatDoorDA02
import Derived.Test.YtofppfoioodblaaGreatDoorDA03
set_option maxRecDepth 8000
set_option maxHeartbeats 4000000
open Go.Proofs.Tryz
namespace Go.Proofs.YtofppfoioodblaaGreatDoor
section
open Go Go.RowKit Go.Shelf Go.Extern.Stop Go.Stop Go.Extern
attribute [local go_sem] Oper.semAt_some
def zfR(p:Int×Int):Value:=.agg #[.int .i64 p.1,.int .i64 p.2]
theorem zjS(n:Nat)(b:Bool)(x y:Int)(w:World):(Instr.checkKey b (n+1+1) 366 (.agg #[.int .i64 x,.int .i64 y])).run prog w=.ok () w:=by
 simp [Instr.checkKey,go_sem]
theorem zdO:qe prog 366 zfR where
 eq:=λk k' w=>by
  obtain⟨a,b⟩:=k;obtain⟨c,d⟩:=k';have h:(Op.equal 366 (zfR (a,b)) (zfR (c,d))).run prog w=(Op.equalIn 10000 366 (.agg #[.int .i64 a,.int .i64 b]) (.agg #[.int .i64 c,.int .i64 d])).run prog w:=rfl;rw [h];simp [go_sem]
  by_cases h1:a=c<;>by_cases h2:b=d<;>simp [h1,h2]
 chk:=λb k w=>zjS 9998 b k.1 k.2 w
 bits:=λk=>by simp [zfR,Instr.sameBits]
 now:=⟨_,Tryz.underlying366,λk k'=>by left;rfl⟩
def tEs(l:List ((Int×Int)×Value)):List MapEntry:=l.zipIdx.map λp=> {key:=zfR p.1.1,val:=p.1.2,born:=p.2}
def zjT(l:List ((Int×Int)×Value)):Obj:=.map (tEs l).toArray l.length
def zdP(x y:Int):List ((Int×Int)×Value)->Bool
 | []=>true
 |((a,b),_)::l=> !(a==x && b==y)&& zdP x y l
theorem zb7(l:List ((Int×Int)×Value)):yU zfR (tEs l) l:=by
 unfold yU tEs;rw [List.map_map]
 apply List.ext_getElem?
 intro n;simp only [List.getElem?_map,List.getElem?_zipIdx]
 cases l[n]?<;>simp
theorem ze3(l:List ((Int×Int)×Value)):(tEs l).map (·.born)=List.range l.length:=by
 unfold tEs;rw [List.map_map];have:(MapEntry.born ∘ λp:((Int×Int)×Value)×Nat=> {key:=zfR p.1.1,val:=p.1.2,born:=p.2})=λp=>p.2:=rfl
 rw [this,List.zipIdx_map_snd,List.range_eq_range']
theorem zjU:Obj.map #[] 0=zjT []:=rfl
theorem zlp {w:World}{b:Nat}{l:List ((Int×Int)×Value)}(h:w.heap[b]?=some (zjT l)):zZ w b zfR l:=by
 refine⟨_,_,h,zb7 l,?_,?_⟩
 ·have:((tEs l).map (·.born)).Pairwise (·<·):=by rw [ze3];exact List.pairwise_lt_range
  exact List.pairwise_map.1 this
 intro e he
 have:e.born∈(tEs l).map (·.born):=List.mem_map.2 ⟨e,he,rfl⟩;rw [ze3] at this;exact List.mem_range.1 this
theorem Ym(x y:Int):∀(l:List ((Int×Int)×Value)) (i:Nat),zdP x y l=true->j7 (x,y) l i=none
 | [],_,_=>rfl
 |((a,b),v)::l,i,h=>by
  unfold zdP at h;simp at h
  unfold j7;rw [if_neg (by intro e;cases e;rcases h.1 with h|h<;>exact h rfl)];exact Ym x y l (i+1) h.2
theorem Va(w:World)(o o':Obj):((w.alloc o).drew).putObj w.heap.size o'=(w.alloc o').drew:=by
 have h:(w.heap.push o).setIfInBounds w.heap.size o'=w.heap.push o':=by
  apply Array.ext_getElem?
  intro i;simp only [Array.getElem?_setIfInBounds,Array.getElem?_push,Array.size_push]
  by_cases hi:w.heap.size=i
  ·subst hi;simp
  have aa:¬i=w.heap.size:=λe=>hi e.symm
  simp [hi,aa]
 exact congrArg (λhp=>({heap:=hp,tape:=w.tape,drawn:=w.drawn+1,os:=w.os,output:=w.output} :World)) h
theorem zdQ(w:World)(l:List ((Int×Int)×Value))(x y:Int)(v:Value)(h:zdP x y l=true):
 (Instr.mapUpdate 360 (.map (some w.heap.size)) (.agg #[.int .i64 x,.int .i64 y]) v).run prog ((w.alloc (zjT l)).drew)=.ok () ((w.alloc (zjT (l++ [((x,y),v)]))).drew):=by
 have hb:((w.alloc (zjT l)).drew).heap[w.heap.size]?=some (.map (tEs l).toArray l.length):=World.alloc_heap_new w _;have hB:yU zfR (tEs l).toArray.toList l:=zb7 l;have hf:=yA zdO (x,y) ((w.alloc (zjT l)).drew) _ _ hB;rw [Ym x y l 0 h] at hf;have hc:=zdO.chk false (x,y) ((w.alloc (zjT l)).drew);have he:Value.agg #[.int .i64 x,.int .i64 y]=zfR (x,y):=rfl;rw [he];unfold Instr.mapUpdate;simp only [Sem.run_bind,run_underlying Tryz.underlying360,Result.andThen,j6 hb,hc,hf,vt _ hb]
 have:zjT (l++ [((x,y),v)])=.map ((tEs l).toArray.push {key:=zfR (x,y),val:=v,born:=l.length}) (l.length+1):=by
  unfold zjT tEs;simp [List.zipIdx_append]
 rw [this];exact congrArg (Result.ok ()) (Va w _ _)
def zhQ(l:List ((Int×Int)×Value)):Prop:=
 zH (1,2) l=some (.func (.func 283) #[] #[])/\zH (2,3) l=some (.func (.func 285) #[] #[])/\
 zH (3,2) l=some (.func (.func 286) #[] #[])/\zH (2,1) l=some (.func (.func 289) #[] #[])
theorem zhR(w:World):Calls prog 230 #[] w λe w'=>e=.returned (.map (some w.heap.size))/\Below w.heap.size w w'/\∃l,zhQ l/\zZ w' w.heap.size zfR l:=by
 have ac:= @run_makeMap prog;have aa:=zjU;have ab:=zdQ w;have t0:∀x y:Int,zdP x y []=true:=λ_ _=>rfl
 have t1:∀(x y a b:Int)(v:Value)(l:List ((Int×Int)×Value)),zdP x y (((a,b),v)::l)=(!(a==x && b==y)&& zdP x y l):=λ_ _ _ _ _ _=>rfl
 go_enter func230,ntmps230
 go_wp2
 go_region
 all_goals clear ab aa ac t0 t1
 all_goals go_wp2
 all_goals go_ret
 all_goals exact⟨rfl,pbx,_,⟨rfl,rfl,rfl,rfl⟩,zlp (World.alloc_heap_new w _)⟩
theorem zjV(f vto:Int)(w:World):Calls prog 231 #[.int .i64 f,.int .i64 vto] w λe w'=>e=.returned (.func (.func 291) #[] #[.pointer (some ⟨w.heap.size,0,none⟩),.pointer (some ⟨w.heap.size+1,0,none⟩)])/\
 w'=(w.alloc (.cells #[.int .i64 f] 3)).alloc (.cells #[.int .i64 vto] 3):=by
 go_enter func231,ntmps231
 go_wp2;go_ret
 exact⟨rfl,rfl⟩
def xH(s vto:Int):Int:=if vto<s then s - 1 else s+1
theorem zhS(F:Fence)(n:Nat)(hF:F.fn 291)(hro:F.round=none)(hn:1<=n)(bf bt:Nat)(a b:Int)(ha:1<=a)(ha3:a<=3)(hb:1<=b)(hb3:b<=3):
 zaF F n prog 291 #[.pointer (some ⟨bf,0,none⟩),.pointer (some ⟨bt,0,none⟩)] (λp:Int×Int=> #[Value.agg #[.int .i64 p.1,.int .i64 p.2]])
  (λ(s:Int) x=>s≠b/\1<=s/\s<=3/\x=(s,xH s b)) (λ_ x=>x.2) (λs=>s=b) (λ_ W=>W.cell? ⟨bf,0,none⟩=some (.int .i64 a)/\W.cell? ⟨bt,0,none⟩=some (.int .i64 b)) a:=by
 intro l J Jx W hJ hJx hRd hY h0;obtain⟨rf,rt⟩:=hRd _ _ _ h0;refine callsIn_of_wp func291 rfl hF ?_ hro;simp only [ntmps291,R8,Nat.reduceAdd,Nat.reduceSub]
 gi_wp2
 gi_loopw [4,5] (λp _ wr=>∃(s:Int)(X:Nat->Prop),p=.int .i64 s/\1<=s/\s<=3/\J s X wr) (λp _ _=>(intOf p - b).natAbs)
 case atStart=>exact⟨a,_,rfl,ha,ha3,h0⟩
 case round=>
  clear rf rt;obtain⟨s,X,rfl,af,ae,aa⟩:=hrel;obtain⟨_,rt⟩:=hRd _ _ _ aa
  by_cases hsb:s=b
  ·subst hsb
   have h1:(s==s)=true:=by simp
   gi_wp2
   go_end0
   exact⟨⟨_,rfl⟩,.inl ⟨s,X,rfl,aa⟩⟩
  have ah:(s==b)=false:=by simp [hsb]
  by_cases hlt:b<s
  ·have hw:=hY s (s,s - 1) _ _ (hJ.alloc (.cells #[.int .i64 s,.int .i64 (s - 1)] 366) aa) ⟨hsb,af,ae,by simp [xH,hlt]⟩
   obtain⟨fn,tmps,assign,body,hy,hR⟩:=hw;have ag:∀o,(wr.alloc o).cell? ⟨bt,0,none⟩=some (.int .i64 b):=λo=>(hRd _ _ _ (hJ.alloc o aa)).2
   dsimp only at hy
   gi_wp2
   refine hR.mono ?_;rintro e W'(⟨rfl,ac,ad⟩|⟨rfl,ab⟩)
   ·have hc:W'.cell? ⟨wr.heap.size,1,none⟩=some (.int .i64 (s - 1)):=
     (ad.cell (p:=⟨wr.heap.size,1,none⟩) (.inr rfl) (by simp)).trans (by simp)
    gi_wp2
    go_roundw
    case rel=>exact⟨s - 1,_,rfl,by omega,by omega,ac⟩
    case measure=>simp [intOf];omega
   gi_wp2
   refine bodyPost_ret (results_none rfl _ _ _) rfl ?_;exact⟨⟨_,rfl⟩,.inr ⟨_,ab⟩⟩
  have hw:=hY s (s,s+1) _ _ (hJ.alloc (.cells #[.int .i64 s,.int .i64 (s+1)] 366) aa) ⟨hsb,af,ae,by simp [xH,hlt]⟩
  obtain⟨fn,tmps,assign,body,hy,hR⟩:=hw;have ag:∀o,(wr.alloc o).cell? ⟨bt,0,none⟩=some (.int .i64 b):=λo=>(hRd _ _ _ (hJ.alloc o aa)).2
  dsimp only at hy
  gi_wp2
  refine hR.mono ?_;rintro e W'(⟨rfl,ac,ad⟩|⟨rfl,ab⟩)
  ·have hc:W'.cell? ⟨wr.heap.size,1,none⟩=some (.int .i64 (s+1)):=
    (ad.cell (p:=⟨wr.heap.size,1,none⟩) (.inr rfl) (by simp)).trans (by simp)
   gi_wp2
   go_roundw
   case rel=>exact⟨s+1,_,rfl,by omega,by omega,ac⟩
   case measure=>simp [intOf];omega
  gi_wp2
  refine bodyPost_ret (results_none rfl _ _ _) rfl ?_;exact⟨⟨_,rfl⟩,.inr ⟨_,ab⟩⟩
end
section
open Go Go.RowKit Go.Shelf Go.Extern.Stop Go.Stop Go.Extern
attribute [local go_sem] Oper.semAt_some zB zo
def fit(l:List UInt8):Option (List UInt8):=if l.length<=1000 then some l else none
def VW(s t:Int)(c:Nat)(d:List UInt8):Option (List UInt8):=
 if s=1 then fit ([98] ++d)
 else if s=3 then(if Lib.hasSuffix d (le4 c)=true then some (Lib.trimSuffix d (le4 c))else none)
 else if t=3 then fit (d++le4 c)
 else(if Lib.hasPrefix d [98]=true then some (Lib.trimPrefix d [98])else none)
def zmj(vto:Int)(c:Nat):Nat->Int->List UInt8->Option (List UInt8)
 |0,_,d=>some d
 |n+1,s,d=>(VW s (xH s vto) c d).bind (zmj vto c n (xH s vto))
def mig(vto:Int)(c:Nat)(s:Int)(d:List UInt8):Option (List UInt8):=zmj vto c (vto - s).natAbs s d
theorem zjW(vto:Int)(c:Nat)(d:List UInt8):mig vto c vto d=some d:=by simp [mig,zmj]
theorem ze4(vto s:Int)(c:Nat)(d:List UInt8)(h:s≠vto):mig vto c s d=(VW s (xH s vto) c d).bind (mig vto c (xH s vto)):=by
 unfold mig xH
 by_cases hlt:vto<s
 ·have h1:(vto - s).natAbs=(vto - (s - 1)).natAbs+1:=by omega
  rw [h1,if_pos hlt];simp only [zmj,xH,if_pos hlt]
 have h1:(vto - s).natAbs=(vto - (s+1)).natAbs+1:=by omega
 rw [h1,if_neg hlt];simp only [zmj,xH,if_neg hlt]
def stV(s:Int×Nat×List UInt8):Value:=.agg #[.int .i64 s.1,.int .u32 s.2.1,.string (bs s.2.2)]
def yf(v:Int)(c:Nat)(d:List UInt8)(vto:Int):(Int×Nat×List UInt8)×Int:=
 if j4 v vto≠0 then((0,0,[]),j4 v vto)
 else if Xe v d.length=false then((0,0,[]),132)
 else match mig vto c v d with
  |some d'=>((vto,c,d'),0)
  |none=>((0,0,[]),132)
theorem Xs {v vto:Int}(h:j4 v vto=0):1<=v/\v<=3/\1<=vto/\vto<=3/\v≠vto:=by
 unfold j4 at h
 split at h
 ·rename_i hk
  split at h
  ·cases h
  rename_i hne
  simp [known] at hk
  exact⟨hk.1.1,hk.1.2,hk.2.1,hk.2.2,hne⟩
 cases h
theorem zhT(a:Addr)(l:List ((Int×Int)×Value))(hl:zhQ l)(s vto:Int)(c:Nat)(d:List UInt8)(h1:1<=s)(h3:s<=3)(t1:1<=vto)(t3:vto<=3)(hne:s≠vto)(hd:d.length<=1000):
 ∃f,zH (s,xH s vto) l=some (.func (.func f) #[] #[])/\(∀args w,(callFunc f args).run prog w=.ok (.enter f args) w)/\
  ((∃d2,VW s (xH s vto) c d=some d2/\d2.length<=1000/\∀(v:Int)(w:World),Calls prog f #[.agg #[.int .i64 v,.int .u32 c,.string (bs d)]] w λe w'=>e=.returned (.tuple #[.string (bs d2),.nilIface])/\Below w.heap.size w w')∨
   (VW s (xH s vto) c d=none/\∀(v:Int)(w:World),jv w a->Calls prog f #[.agg #[.int .i64 v,.int .u32 c,.string (bs d)]] w λe w'=>e=.returned (.tuple #[.string ByteArray.empty,.iface 483 (.pointer (some a))])/\Below w.heap.size w w')):=by
 obtain⟨ab,ad,aa,ac⟩:=hl;obtain rfl|rfl|rfl:s=1∨s=2∨s=3:=by omega
 ·have hn:xH 1 vto=2:=by unfold xH;rw [if_neg (by omega)];rfl
  rw [hn];refine⟨_,ab,enters_of func283 (by kernel_rfl) rfl,?_⟩
  by_cases hf:([98] ++d).length<=1000
  ·exact .inl ⟨[98] ++d,by simp only [VW,if_pos,fit,if_pos hf],hf,λv w=>zdA v c d w hf⟩
  exact .inr ⟨by simp only [VW,if_pos,fit,if_neg hf],λv w he=>zdB a v c d w he (by omega) hd⟩
 ·by_cases ht:vto<2
  ·have hn:xH 2 vto=1:=by unfold xH;rw [if_pos ht];rfl
   rw [hn];refine⟨_,ac,enters_of func289 (by kernel_rfl) rfl,?_⟩
   cases hp:Lib.hasPrefix d [98]
   ·exact .inr ⟨by simp [VW,hp],λv w he=>zhu a v c d w he hp⟩
   refine .inl ⟨Lib.trimPrefix d [98],by simp [VW,hp],?_,λv w=>zfG v c d w hp⟩
   unfold Lib.trimPrefix
   split<;>simp<;>omega
  have hn:xH 2 vto=3:=by unfold xH;rw [if_neg ht];rfl
  rw [hn];refine⟨_,ad,enters_of func285 (by kernel_rfl) rfl,?_⟩
  by_cases hf:(d++le4 c).length<=1000
  ·exact .inl ⟨d++le4 c,by simp [VW,fit,zY] at hf⊢;omega,hf,λv w=>zdC v c d w hf⟩
  exact .inr ⟨by simp [VW,fit,zY] at hf⊢;omega,λv w he=>zdD a v c d w he (by omega) hd⟩
 have hn:xH 3 vto=2:=by unfold xH;rw [if_pos (by omega)];rfl
 rw [hn];refine⟨_,aa,enters_of func286 (by kernel_rfl) rfl,?_⟩
 cases hp:Lib.hasSuffix d (le4 c)
 ·exact .inr ⟨by simp [VW,hp],λv w he=>zht a v c d w he hd hp⟩
 refine .inl ⟨Lib.trimSuffix d (le4 c),by simp [VW,hp],?_,λv w=>zfF v c d w hd hp⟩
 unfold Lib.trimSuffix
 split<;>simp<;>omega
theorem zdR(a:Addr)(v:Int)(c:Nat)(d:List UInt8)(vto:Int)(w:World)(he:jv w a):
 Calls prog 173 #[.agg #[.int .i64 v,.int .u32 c,.string (bs d)],.int .i64 vto] w λe w'=>
  e=.returned (.tuple #[stV (yf v c d vto).1,.int .i64 (yf v c d vto).2])/\Below w.heap.size w w':=by
 have hE:∀W,Below w.heap.size w W->jv W a:=λW hW=>he.below hW he.lt
 clear he
 by_cases hck:j4 v vto=0
 ·have bb:(j4 v vto !=0)=false:=by simp [hck]
  by_cases hr:Xe v (bs d).size=true
  ·refine zl func173 rfl ?_
   simp only [ntmps173,R8,Nat.reduceAdd,Nat.reduceSub]
   go_wp2_with (first
    |(go_at_call 110;refine(qc _ _ _).mono ?_;rintro e w1 ⟨rfl,ad⟩;have k0:Blk w1 w.heap.size #[.int .i64 v,.int .u32 c,.string (bs d)] 115:=Blk.call (bkx) ad;have k1:Blk w1 (w.heap.size+1) #[.int .i64 0,.int .u32 0,.string ⟨#[]⟩] 115:=Blk.call (bkx) ad;have k2:Blk w1 (w.heap.size+2) #[.int .i64 0] 25:=Blk.call (bkx) ad;have c0:=k0.cell)
    |(go_at_call 229;refine(Xf _ _ _ _).mono ?_;rintro e w2 ⟨rfl,ah⟩;replace k0:=k0.call ah;replace k1:=k1.call ah;replace k2:=k2.call ah;have a0:=k2.lt;clear c0)
    |(go_at_call 230;refine(zhR _).mono ?_;rintro e w3 ⟨rfl,an,l,hl,ac⟩;replace k0:=k0.call an;replace k1:=k1.call an;replace k2:=k2.call an;have c0:=k0.cell;have l0:=k0.lt)
    |(go_at_call 231;refine(zjV _ _ _).mono ?_;rintro e w4 ⟨rfl,rfl⟩))
   obtain⟨a5,a7,a1,ay,bk,ba⟩:1<=v/\v<=3/\1<=vto/\vto<=3/\v≠vto/\d.length<=1000:=by
    have h1:=Xs hck;rw [zI] at hr;have h2:d.length<=1000:=by unfold Xe at hr;simp at hr;exact hr.2
    exact⟨h1.1,h1.2.1,h1.2.2.1,h1.2.2.2.1,h1.2.2.2.2,h2⟩
   obtain⟨A,hA⟩:∃A,A=w3.heap.size:=⟨_,rfl⟩;obtain⟨MB,ai⟩:∃MB,MB=w2.heap.size:=⟨_,rfl⟩;obtain⟨W0,ae⟩:∃W0,W0=((w3.alloc (.cells #[.map (some w2.heap.size)] 360)).alloc (.cells #[.int .i64 v] 3)).alloc (.cells #[.int .i64 vto] 3):=⟨_,rfl⟩;have ar:Below w.heap.size w W0:=by rw [ae];exact pbx
   have bj:W0.heap.size=A+3:=by rw [ae,hA];simp
   have q0:Blk W0 w.heap.size #[.int .i64 v,.int .u32 c,.string (bs d)] 115:=by rw [ae];exact bkx
   have q1:Blk W0 (w.heap.size+1) #[.int .i64 0,.int .u32 0,.string ⟨#[]⟩] 115:=by rw [ae];exact bkx
   have q2:Blk W0 (w.heap.size+2) #[.int .i64 0] 25:=by rw [ae];exact bkx
   have qA:Blk W0 A #[.map (some MB)] 360:=by rw [ae,hA,ai];exact bkx
   have qF:Blk W0 (A+1) #[.int .i64 v] 3:=by rw [ae,hA];exact bkx
   have qT:Blk W0 (A+1+1) #[.int .i64 vto] 3:=by rw [ae,hA];exact bkx
   have qM:zZ W0 MB zfR l:=by
    rw [ai];refine ac.kept ?_
    rw [ae,U4 _ _ _ (by have:=ac.lt;simp;omega),U4 _ _ _ (by have:=ac.lt;simp;omega),U4 _ _ _ ac.lt]
   have n0:=k0.lt;have n2:=k2.lt;have nM:MB<A:=by rw [ai,hA];exact ac.lt
   have bh:w.heap.size+2<MB:=by rw [ai];exact a0
   rw [← hA] at n0 n2;rw [← ae,← hA,← ai];clear ae ac k0 k1 k2 ad ah an c0 l0 hA ai a0
   refine Xc (gf:=291) (lb:=#[.pointer (some ⟨A+1,0,none⟩),.pointer (some ⟨A+1+1,0,none⟩)]) rfl (enters_of func291 (by kernel_rfl) rfl)
    (zhS Fence.wide 2 trivial rfl (by omega) (A+1) (A+1+1) v vto a5 a7 a1 ay) (λ_=>rfl)
    (λs X W=>Fr (λk=>k=w.heap.size) W0 X W/\∃d',Blk W w.heap.size #[.int .i64 s,.int .u32 c,.string (bs d')] 115/\d'.length<=1000/\mig vto c s d'=mig vto c v d)
    (λcc X W=>cc=.ret/\mig vto c v d=none/\Fr (λk=>k=w.heap.size∨k=w.heap.size+1∨k=w.heap.size+2) W0 X W/\Blk W (w.heap.size+1) #[.int .i64 0,.int .u32 0,.string ⟨#[]⟩] 115/\Blk W (w.heap.size+2) #[.int .i64 132] 25)
    (λs X X' W W' h hm hx=>⟨h.1.step hm hx,by obtain⟨d',hb,hr⟩:=h.2;exact⟨d',hb.kept (h.1.block hm (by omega)),hr⟩⟩)
    (λcc s X X' W W' h hm hx=>⟨h.1,h.2.1,h.2.2.1.step hm hx,h.2.2.2.1.kept (h.2.2.1.block hm (by omega)),h.2.2.2.2.kept (h.2.2.1.block hm (by omega))⟩)
    (λs X W h=>⟨((qF.mod h.1.2 (by omega)).cell 0).trans rfl,((qT.mod h.1.2 (by omega)).cell 0).trans rfl⟩)
    ⟨Fr.refl _ _,d,q0,ba,rfl⟩
    (λs x a' X W=>∃B,a'={tmps:=#[.agg #[.int .i64 v,.int .u32 c,.string (bs d)],.int .i64 vto,.pointer (some ⟨w.heap.size,0,none⟩),undef,.pointer (some ⟨w.heap.size+1,0,none⟩),.pointer (some ⟨w.heap.size+1+1,0,none⟩),.int .i64 0,.pointer (some ⟨A,0,none⟩),.pointer (some ⟨B,0,none⟩),undef,undef,.pointer (some ⟨w.heap.size,0,none⟩),.int .i64 v,.int .i64 vto,.int .i64 0,.int .i64 0,.bool false,undef,undef,.agg #[.int .i64 v,.int .u32 c,.string (bs d)],.bool true,.bool false,undef,.map (some MB),.pointer (some ⟨w.heap.size,0,none⟩),.int .i64 v,.int .i64 vto,.func (.func 291) #[] #[.pointer (some ⟨A+1,0,none⟩),.pointer (some ⟨A+1+1,0,none⟩)],.agg #[.int .i64 x.1,.int .i64 x.2],undef,undef,undef,undef,undef,undef,undef,undef,undef,undef,undef,undef,undef,undef,undef,undef,undef,undef],defers:=[] } /\s≠vto/\1<=s/\s<=3/\x=(s,xH s vto)/\W0.heap.size<=B/\¬X B/\Blk W B #[.int .i64 x.1,.int .i64 x.2] 366/\
     Fr (λk=>k=w.heap.size) W0 X W/\∃d',Blk W w.heap.size #[.int .i64 s,.int .u32 c,.string (bs d')] 115/\d'.length<=1000/\mig vto c s d'=mig vto c v d)
    ?ax ?assign ?body ?done ?stop
   case ax=>
    rintro s x a' u X X' W W'⟨B,bc,h1,h2,h3,hx,hB,aq,al,aa,d',ag,hr⟩ hm hX;exact⟨B,bc,h1,h2,h3,hx,hB,λh=>(hX B h).elim aq (λh'=>by have:=al.lt;omega),al.mod hm aq,aa.step hm hX,d',ag.kept (aa.block hm (by omega)),hr⟩
   case assign=>
    rintro l' s x X W K⟨aa,d',ag,hr⟩⟨h1,h2,h3,hx⟩ hK;have be:¬X W.heap.size:=aa.next
    gi_wp2
    refine hK _ _ ⟨W.heap.size,by rw [hx],h1,h2,h3,hx,aa.2.size,be,by rw [hx];exact Blk.new rfl,aa.mod (Mod.alloc (λ_=>False) _ _) (λ_ _ h=>h.elim),d',ag.alloc _,hr⟩ (jm.of_mod (Mod.alloc (λ_=>False) _ _) (λ_ _ _ h=>h))
   case body=>
    rintro l' s x a' X W⟨B,rfl,h1,h2,h3,rfl,hB,aq,al,aa,d',ag,aw,am⟩ bg _;obtain⟨f,a6,bi,ab⟩:=zhT a l hl s vto c d' h2 h3 a1 ay h1 aw;have ao:Below w.heap.size w W:=ar.trans (aa.below (by omega) (λ_ h=>by omega));have e0:=ag.cell;have g0:=ag.frozen;have eA:=(qA.mod aa.2 (by omega)).cell;have eB:=al.cell;have l0:=ag.lt
    have az:(Instr.lookup 360 (.map (some MB)) (.agg #[.int .i64 s,.int .i64 (xH s vto)]) false).run prog W.drew=.ok (.func (.func f) #[] #[]) W.drew:=by
     have:=(zZ.kept (w':=W.drew) qM (aa.2.block MB (by omega) (by omega))).lookup zdO Tryz.underlying360 (z:=.nilFunc) (by kernel_rfl) (s,xH s vto);rw [a6] at this;exact this
    rcases ab with⟨d2,hturn,hd2,ab⟩|⟨hturn,ab⟩
    ·gi_wp2
     apply zbN (Wp:=λw'=>Below W.drew.heap.size W.drew w')
     case h=>
      gi_region_with (refine(inRound _ _ (ab _ _)).mono ?_;rintro e w5 ⟨rfl,af⟩)
      all_goals exact⟨rfl,rfl,by assumption⟩
     case h2=>
      rintro w5 af;have k0:=ag.drew.call af;have kB:=al.drew.call af;have c0:=k0.cell;have f0:=k0.frozen;have cB:=kB.cell;have bf:w5.cell? ⟨2,0,none⟩=some (.iface 483 (.pointer (some a))):=hE w5 (ze (zm ao) af)
      gi_wp2_with (gi_at_call 197;refine(inRound _ _ (zl8 a _)).mono ?_;rintro e w6 ⟨rfl,rfl⟩)
      have hm:Mod (λk=>w.heap.size=k) W ((w6.setCell ⟨w.heap.size,0,none⟩ (.int .i64 (xH s vto))).setCell ⟨w.heap.size,2,none⟩ (.string (bs d2))):=by
       have au:Below W.heap.size W w6:=(Below.drew (N2 _ _)).trans af;exact((Mod.of_below (λk=>w.heap.size=k) au).thenSet rfl _).thenSet rfl _
      refine⟨⟨aa.mod hm (λk _ h=>h.symm),d2,(k0.set _).set _,hd2,?_⟩,jm.of_mod hm (λk _ hX he=>by have:=aa.1 k hX;omega)⟩;rw [← am,ze4 vto s c d' h1,hturn];rfl
    gi_wp2
    apply zbN (Wp:=λw'=>Below W.drew.heap.size W.drew w')
    case h=>
     gi_region_with (refine(inRound _ _ (ab _ _ (hE _ (zm ao)))).mono ?_;rintro e w5 ⟨rfl,af⟩)
     all_goals exact⟨rfl,rfl,by assumption⟩
    case h2=>
     rintro w5 af;have k1:=(q1.mod aa.2 (by omega)).drew.call af;have k2:=(q2.mod aa.2 (by omega)).drew.call af;have c1:=k1.cell;have f1:=k1.frozen;have c2:=k2.cell;have f2:=k2.frozen;have bf:w5.cell? ⟨2,0,none⟩=some (.iface 483 (.pointer (some a))):=hE w5 (ze (zm ao) af)
     gi_wp2_with (gi_at_call 197;refine(inRound _ _ (zlc a _)).mono ?_;rintro e w6 ⟨rfl,rfl⟩)
     have hm:Mod (λk=>k=w.heap.size∨k=w.heap.size+1∨k=w.heap.size+2) W ((((w6.setCell ⟨w.heap.size+1,0,none⟩ (.int .i64 0)).setCell ⟨w.heap.size+1,1,none⟩ (.int .u32 0)).setCell ⟨w.heap.size+1,2,none⟩ (.string ⟨#[]⟩)).setCell ⟨w.heap.size+2,0,none⟩ (.int .i64 132)):=by
      have au:Below W.heap.size W w6:=(Below.drew (N2 _ _)).trans af;exact((((Mod.of_below (λk=>k=w.heap.size∨k=w.heap.size+1∨k=w.heap.size+2) au).thenSet (.inr (.inl rfl)) _).thenSet (.inr (.inl rfl)) _).thenSet (.inr (.inl rfl)) _).thenSet (.inr (.inr rfl)) _
     refine⟨⟨rfl,?_,(aa.wider (λk h=>.inl h)).mod hm (λk _ h=>h),(((k1.set _).set _).set _).other (by simp) _,(((k2.other (by simp) _).other (by simp) _).other (by simp) _).set _⟩,jm.of_mod hm (λk _ hX he=>by have:=aa.1 k hX;omega)⟩;rw [← am,ze4 vto s c d' h1,hturn];rfl
   case done=>
    rintro D s X W hD bd rfl⟨aa,d',ag,aw,am⟩ hK;rw [zjW] at am;have c0:=ag.cell;have k1:=q1.mod aa.2 (by omega);have k2:=q2.mod aa.2 (by omega);have c1:=k1.cell;have f1:=k1.frozen;have c2:=k2.cell;have f2:=k2.frozen
    have hp:yf v c d s=((s,c,d'),0):=by
     unfold yf;rw [if_neg (by simp [hck]),zI] at*;rw [if_neg (by simp [hr]),← am]
    go_wp2;have aj:=((((k1.set (o:=0) (.int .i64 s)).set (o:=1) (.int .u32 c)).set (o:=2) (.string (bs d'))).other (p:=⟨w.heap.size+1+1,0,none⟩) (by simp) (.int .i64 0)).putObj (r:=D) (by omega) (.deferred none);have ak:=((((k2.other (p:=⟨w.heap.size+1,0,none⟩) (by simp) (.int .i64 s)).other (p:=⟨w.heap.size+1,1,none⟩) (by simp) (.int .u32 c)).other (p:=⟨w.heap.size+1,2,none⟩) (by simp) (.string (bs d'))).set (o:=0) (.int .i64 0)).putObj (r:=D) (by omega) (.deferred none);have r1:=aj.cell;have r2:=ak.cell;rw [hp];refine jl (v:=.tuple #[stV (s,c,d'),.int .i64 0]) ?_ ?_ ⟨rfl,?_⟩
    ·exact Jd (Jd (Jd (Jd hK (by simp;omega) _) (by simp;omega) _) (by simp;omega) _) (by simp;omega) _
    ·simp [results,Tryz.results173,go_sem,r1,r2,stV]
    refine zS ?_ (by omega) _
    exact((((ar.trans (aa.below (by omega) (λ_ h=>by omega))).setCell (Nat.le_add_right _ _) _).setCell (Nat.le_add_right _ _) _).setCell (Nat.le_add_right _ _) _).setCell (Nat.le_add_right _ 2) _
   case stop=>
    rintro D cc X W hD bd⟨rfl,ap,aa,a3,a8⟩ hK
    have hp:yf v c d vto=((0,0,[]),132):=by
     unfold yf;rw [if_neg (by simp [hck]),zI] at*;rw [if_neg (by simp [hr]),ap]
    have r1:=(a3.putObj (r:=D) (by omega) (.deferred none)).cell;have r2:=(a8.putObj (r:=D) (by omega) (.deferred none)).cell;go_wp2;rw [hp];refine jl (v:=.tuple #[stV (0,0,[]),.int .i64 132]) hK ?_ ⟨rfl,?_⟩
    ·simp [results,Tryz.results173,go_sem,r1,r2,stV]
     rfl
    exact zS (ar.trans (aa.below (by omega) (λ_ h=>by omega))) (by omega) _
  have a2:Xe v (bs d).size=false:=by simpa using hr
  have hp:yf v c d vto=((0,0,[]),132):=by
   unfold yf;rw [if_neg (by simp [hck])];rw [zI] at a2;rw [if_pos a2]
  clear hr;refine zl func173 rfl ?_;simp only [ntmps173,R8,Nat.reduceAdd,Nat.reduceSub]
  go_wp2_with (first
   |(go_at_call 110;refine(qc _ _ _).mono ?_;rintro e w1 ⟨rfl,ad⟩;have k0:Blk w1 w.heap.size #[.int .i64 v,.int .u32 c,.string (bs d)] 115:=Blk.call (bkx) ad;have k1:Blk w1 (w.heap.size+1) #[.int .i64 0,.int .u32 0,.string ⟨#[]⟩] 115:=Blk.call (bkx) ad;have k2:Blk w1 (w.heap.size+2) #[.int .i64 0] 25:=Blk.call (bkx) ad;have c0:=k0.cell)
   |(go_at_call 229;refine(Xf _ _ _ _).mono ?_;rintro e w2 ⟨rfl,ah⟩;replace k0:=k0.call ah;replace k1:=k1.call ah;replace k2:=k2.call ah;clear c0;have c1:=k1.cell;have f1:=k1.frozen;have c2:=k2.cell;have f2:=k2.frozen))
  rw [hp];have aj:=((((k1.set (o:=0) (.int .i64 0)).set (o:=1) (.int .u32 0)).set (o:=2) (.string ⟨#[]⟩)).other (p:=⟨w.heap.size+1+1,0,none⟩) (by simp) (.int .i64 132));have ak:=((((k2.other (p:=⟨w.heap.size+1,0,none⟩) (by simp) (.int .i64 0)).other (p:=⟨w.heap.size+1,1,none⟩) (by simp) (.int .u32 0)).other (p:=⟨w.heap.size+1,2,none⟩) (by simp) (.string ⟨#[]⟩)).set (o:=0) (.int .i64 132));have r1:=aj.cell;have r2:=ak.cell;refine jp (v:=.tuple #[stV (0,0,[]),.int .i64 132]) ?_ ⟨rfl,?_⟩
  ·simp [results,Tryz.results173,go_sem,r1,r2,stV]
   rfl
  have a4:Below w.heap.size w w2:=pbx
  exact(((a4.setCell (Nat.le_add_right _ _) _).setCell (Nat.le_add_right _ _) _).setCell (Nat.le_add_right _ _) _).setCell (Nat.le_add_right _ 2) _
 have bb:(j4 v vto !=0)=true:=by simp [hck]
 have hp:yf v c d vto=((0,0,[]),j4 v vto):=by
  unfold yf;rw [if_pos hck]
 refine zl func173 rfl ?_;simp only [ntmps173,R8,Nat.reduceAdd,Nat.reduceSub]
 go_wp2_with (go_at_call 110;refine(qc _ _ _).mono ?_;rintro e w1 ⟨rfl,ad⟩;have k1:Blk w1 (w.heap.size+1) #[.int .i64 0,.int .u32 0,.string ⟨#[]⟩] 115:=Blk.call (bkx) ad;have k2:Blk w1 (w.heap.size+2) #[.int .i64 0] 25:=Blk.call (bkx) ad;have c1:=k1.cell;have f1:=k1.frozen;have c2:=k2.cell;have f2:=k2.frozen)
 rw [hp];have aj:=((((k1.set (o:=0) (.int .i64 0)).set (o:=1) (.int .u32 0)).set (o:=2) (.string ⟨#[]⟩)).other (p:=⟨w.heap.size+1+1,0,none⟩) (by simp) (.int .i64 (j4 v vto)));have ak:=((((k2.other (p:=⟨w.heap.size+1,0,none⟩) (by simp) (.int .i64 0)).other (p:=⟨w.heap.size+1,1,none⟩) (by simp) (.int .u32 0)).other (p:=⟨w.heap.size+1,2,none⟩) (by simp) (.string ⟨#[]⟩)).set (o:=0) (.int .i64 (j4 v vto)));have r1:=aj.cell;have r2:=ak.cell;refine jp (v:=.tuple #[stV (0,0,[]),.int .i64 (j4 v vto)]) ?_ ⟨rfl,?_⟩
 ·simp [results,Tryz.results173,go_sem,r1,r2,stV]
  rfl
 have a9:Below w.heap.size w w1:=pbx
 exact(((a9.setCell (Nat.le_add_right _ _) _).setCell (Nat.le_add_right _ _) _).setCell (Nat.le_add_right _ _) _).setCell (Nat.le_add_right _ 2) _
end
open Go Go.RowKit Go.Shelf Go.Extern.Stop Go.Stop Go.Extern
attribute [local go_sem] Oper.semAt_some zB zo
theorem Q1 {a:Addr}{v:Int}{c:Nat}{d:List UInt8}{vto:Int}{v':Int}{c':Nat}{d':List UInt8}{e':Int}(h:yf v c d vto=((v',c',d'),e'))(w:World)(he:jv w a):
 Calls prog 173 #[.agg #[.int .i64 v,.int .u32 c,.string (bs d)],.int .i64 vto] w λe w'=>
  e=.returned (.tuple #[.agg #[.int .i64 v',.int .u32 c',.string (bs d')],.int .i64 e'])/\Below w.heap.size w w':=by
 have hm:=zdR a v c d vto w he;rw [h] at hm;exact hm
def ze5(v:Int):(Int×Nat×List UInt8)×Int:=if v=1 then((1,0,[]),0)else yf 1 0 [] v
theorem zjX {a:Addr}{v:Int}{v':Int}{c':Nat}{d':List UInt8}{e':Int}(h:ze5 v=((v',c',d'),e'))(w:World)(he:jv w a):
 Calls prog 131 #[.int .i64 v] w λe w'=>e=.returned (.tuple #[.agg #[.int .i64 v',.int .u32 c',.string (bs d')],.int .i64 e'])/\Below w.heap.size w w':=by
 have hE:∀W,Below w.heap.size w W->jv W a:=λW hW=>he.below hW he.lt
 clear he;unfold ze5 at h
 by_cases h1:v=1
 ·have ab:(v==1)=true:=by simp [h1]
  rw [if_pos h1] at h
  cases h
  go_enter func131,ntmps131
  go_wp2;exact bodyPost_ret (v:=.tuple #[.agg #[.int .i64 1,.int .u32 0,.string ⟨#[]⟩],.int .i64 0]) (by simp [results,Tryz.results131,go_sem]) rfl ⟨rfl,pbx⟩
 have ab:(v==1)=false:=by simp [h1]
 rw [if_neg h1] at h
 go_enter func131,ntmps131
 go_wp2_with (go_at_call 173;refine(Q1 h _ (hE _ (pbx))).mono ?_;rintro e w1 ⟨rfl,aa⟩;have k0:Blk w1 w.heap.size #[.int .i64 0,.int .u32 0,.string ⟨#[]⟩] 115:=Blk.call (bkx) aa;have c0:=k0.cell;have f0:=k0.frozen)
 have r1:=(((k0.set (o:=0) (.int .i64 v')).set (o:=1) (.int .u32 c')).set (o:=2) (.string (bs d'))).cell;have hB:Below w.heap.size w w1:=pbx;exact bodyPost_ret (v:=.tuple #[stV (v',c',d'),.int .i64 e']) (by simp [results,Tryz.results131,go_sem,r1,stV]) rfl ⟨rfl,((hB.setCell (N0 _) _).setCell (N0 _) _).setCell (N0 _) _⟩
