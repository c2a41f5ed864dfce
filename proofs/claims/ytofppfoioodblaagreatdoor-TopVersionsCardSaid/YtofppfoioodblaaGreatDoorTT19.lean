/- PARTS OF THE PROOF. -/
import Derived.Test.YtofppfoioodblaaGreatDoorTT09
import Derived.Test.YtofppfoioodblaaGreatDoorTT14
set_option maxRecDepth 8000
set_option maxHeartbeats 4000000
open Go.Proofs.Tryz
namespace Go.Proofs.YtofppfoioodblaaGreatDoor
open Go Go.RowKit Go.Shelf Go.Extern.Stop Go.Stop Go.Extern
attribute [local go_sem] Oper.semAt_some zv zm
def yN(v:jl):Value:=.agg #[.int .u64 (v.1:Nat),.int .u64 (v.2.1:Nat),.string (bs v.2.2)]
theorem zg9(x:List UInt8):(bs x).toList.isEmpty=x.isEmpty:=by rw [yC]
theorem VZ(b:Nat)(x:List UInt8)(w:World)(h0:w.cell? ⟨b,0,none⟩=some (.string (bs x))):
 Calls prog 251 #[.slice (some ⟨b,0,none⟩) 1 1] w λe w'=>e=.returned (.bool (decide (x.length<=4000)))/\w'=w:=by
 have hsz:=zJ x
 go_enter func251,ntmps251
 go_wp2
 go_loop [7] (λp7=>∃k:Nat,k<=1/\p7=.int .i64 k/\(k=1->x.length<=4000)) (λp7=>1 - (intOf p7).toNat)
 case atStart=>exact⟨0,by omega,rfl,by simp⟩
 case round=>
  obtain⟨k,hk,rfl,hx⟩:=hrel
  rcases(by omega:k=0∨k=1)with rfl|rfl
  ·by_cases h:4000<x.length
   ·have t0:decide ((4000:Int)<((bs x).size:Int))=true:=by rw [hsz];simp;omega
    have hd:decide (x.length<=4000)=false:=by simp;omega
    replace hsz:=hid hsz;go_wp2;go_ret
    exact⟨rfl,rfl⟩
   ·have t0:decide ((4000:Int)<((bs x).size:Int))=false:=by rw [hsz];simp;omega
    replace hsz:=hid hsz;go_wp2
    go_round
    case rel=>exact⟨1,by omega,by go_num,by omega⟩
    case measure=>simp [intOf]
  ·have hd:decide (x.length<=4000)=true:=by simp;omega
   go_wp2;go_ret
   exact⟨rfl,rfl⟩
theorem Yq(v:jl)(w:World):Calls prog 303 #[yN v] w λe w'=>e=.returned (.bool (j7 v))/\Below w.heap.size w w':=by
 obtain⟨p,b,x⟩:=v;have hfit:=λbb W h=>VZ bb x W h
 have tq:=zg9 x;unfold yN j7;simp only
 generalize decide (x.length<=4000)=fx at*
 replace hfit:=hid hfit
 by_cases hb0:b=0
 ·subst hb0
  have t0:(((0:Nat):Int)==0)=true:=rfl;have t1:decide (((0:Nat):Int)<=(p:Int))=true:=by simp
  have e1:decide (0<=p)=true:=by simp
  rw [e1,show decide ((0:Nat)=0)=true from rfl]
  cases hx:x.isEmpty
  ·rw [hx] at tq
   replace hx:=hid hx
   go_enter func303,ntmps303
   go_wp2;go_ret
   exact⟨rfl,pbx⟩
  ·rw [hx] at tq
   replace hx:=hid hx
   go_enter func303,ntmps303
   go_wp2_with fail
   refine(hfit.out _ _ (by simp)).mono ?_;rintro e w1⟨rfl,rfl⟩;go_wp2;go_ret
   exact⟨by simp,pbx⟩
 ·have t0:((b:Int)==0)=false:=by simpa using hb0
  rw [show decide (b=0)=false by simpa using hb0]
  by_cases hbp:b<=p
  ·have t1:decide ((b:Int)<=(p:Int))=true:=by simpa using hbp
   rw [show decide (b<=p)=true by simpa using hbp];replace hbp:=hid hbp;replace hb0:=hid hb0
   go_enter func303,ntmps303
   go_wp2_with fail
   refine(hfit.out _ _ (by simp)).mono ?_;rintro e w1⟨rfl,rfl⟩;go_wp2;go_ret
   exact⟨by simp,pbx⟩
  ·have t1:decide ((b:Int)<=(p:Int))=false:=by simpa using hbp
   rw [show decide (b<=p)=false by simpa using hbp];replace hbp:=hid hbp;replace hb0:=hid hb0
   go_enter func303,ntmps303
   go_wp2;go_ret
   exact⟨by simp,pbx⟩
def zaa(r:jl×Int):Value:=.tuple #[yN r.1,.int .i64 r.2]
theorem zbq(v:jl)(b:Nat)(w:World):Calls prog 302 #[yN v,.int .u64 b] w λe w'=>e=.returned (zaa (yj v b))/\Below w.heap.size w w':=by
 have hr:=λW=>Yq v W
 have hp:yj v b=if j7 v=false∨b<1 then((0,0,[]),2)else if b<=v.1 then((0,0,[]),80)else((b,v.2),0):=rfl
 generalize j7 v=ok at*
 obtain⟨p,q,x⟩:=v;unfold zaa yN at*;simp only at hr hp⊢;replace hr:=hid hr
 by_cases hok:ok=false∨b<1
 ·rw [if_pos hok] at hp
  rw [hp];replace hp:=hid hp
  cases ok
  ·clear hok
   go_enter func302,ntmps302
   go_wp2_with fail
   refine(hr.out _).mono ?_;rintro e w1⟨rfl,hb1⟩;have k1:Blk w1 (w.heap.size+1) #[.int .u64 0,.int .u64 0,.string ⟨#[]⟩] 317:=Blk.call (bkx) hb1;have k0:Blk w1 w.heap.size #[.int .u64 p,.int .u64 q,.string (bs x)] 317:=Blk.call (bkx) hb1;have c1:=k1.cell;have f1:=k1.frozen;have l1:=k1.lt;have c0:=k0.cell;have f0:=k0.frozen;have l0:=k0.lt;have hbw:Below w.heap.size w w1:=pbx;have kr:=k1;have hbw2:=hbw;have rr:=(((kr.set (o:=0) (.int .u64 0)).set (o:=1) (.int .u64 0)).set (o:=2) (.string ⟨#[]⟩)).cell;go_wp2;exact bodyPost_ret (v:=.tuple #[.agg #[.int .u64 0,.int .u64 0,.string ⟨#[]⟩],.int .i64 2]) (by simp [results,Tryz.results302,go_sem,rr]) rfl ⟨by first|rfl|simp,zn (zn (zn hbw2 (by simp) _) (by simp) _) (by simp) _⟩
  ·have t1:decide ((b:Int)<1)=true:=by rcases hok with h|h;cases h;simp;omega
   replace hok:=hid hok
   go_enter func302,ntmps302
   go_wp2_with fail
   refine(hr.out _).mono ?_;rintro e w1⟨rfl,hb1⟩;have k1:Blk w1 (w.heap.size+1) #[.int .u64 0,.int .u64 0,.string ⟨#[]⟩] 317:=Blk.call (bkx) hb1;have k0:Blk w1 w.heap.size #[.int .u64 p,.int .u64 q,.string (bs x)] 317:=Blk.call (bkx) hb1;have c1:=k1.cell;have f1:=k1.frozen;have l1:=k1.lt;have c0:=k0.cell;have f0:=k0.frozen;have l0:=k0.lt;have hbw:Below w.heap.size w w1:=pbx;have kr:=k1;have hbw2:=hbw;have rr:=(((kr.set (o:=0) (.int .u64 0)).set (o:=1) (.int .u64 0)).set (o:=2) (.string ⟨#[]⟩)).cell;go_wp2;exact bodyPost_ret (v:=.tuple #[.agg #[.int .u64 0,.int .u64 0,.string ⟨#[]⟩],.int .i64 2]) (by simp [results,Tryz.results302,go_sem,rr]) rfl ⟨by first|rfl|simp,zn (zn (zn hbw2 (by simp) _) (by simp) _) (by simp) _⟩
 ·rw [if_neg hok] at hp
  obtain rfl:ok=true:=by cases ok<;>simp_all
  have t1:decide ((b:Int)<1)=false:=by simp;omega
  replace hok:=hid hok
  by_cases hbp:b<=p
  ·rw [if_pos hbp] at hp
   rw [hp];have t2:decide ((b:Int)<=(p:Int))=true:=by simpa using hbp
   replace hp:=hid hp;replace hbp:=hid hbp
   go_enter func302,ntmps302
   go_wp2_with fail
   refine(hr.out _).mono ?_;rintro e w1⟨rfl,hb1⟩;have k1:Blk w1 (w.heap.size+1) #[.int .u64 0,.int .u64 0,.string ⟨#[]⟩] 317:=Blk.call (bkx) hb1;have k0:Blk w1 w.heap.size #[.int .u64 p,.int .u64 q,.string (bs x)] 317:=Blk.call (bkx) hb1;have c1:=k1.cell;have f1:=k1.frozen;have l1:=k1.lt;have c0:=k0.cell;have f0:=k0.frozen;have l0:=k0.lt;have hbw:Below w.heap.size w w1:=pbx;have kr:=k1;have hbw2:=hbw;have rr:=(((kr.set (o:=0) (.int .u64 0)).set (o:=1) (.int .u64 0)).set (o:=2) (.string ⟨#[]⟩)).cell;go_wp2;exact bodyPost_ret (v:=.tuple #[.agg #[.int .u64 0,.int .u64 0,.string ⟨#[]⟩],.int .i64 80]) (by simp [results,Tryz.results302,go_sem,rr]) rfl ⟨by first|rfl|simp,zn (zn (zn hbw2 (by simp) _) (by simp) _) (by simp) _⟩
  ·rw [if_neg hbp] at hp
   rw [hp];have t2:decide ((b:Int)<=(p:Int))=false:=by simpa using hbp
   replace hp:=hid hp;replace hbp:=hid hbp
   go_enter func302,ntmps302
   go_wp2_with fail
   refine(hr.out _).mono ?_;rintro e w1⟨rfl,hb1⟩;have k1:Blk w1 (w.heap.size+1) #[.int .u64 0,.int .u64 0,.string ⟨#[]⟩] 317:=Blk.call (bkx) hb1;have k0:Blk w1 w.heap.size #[.int .u64 p,.int .u64 q,.string (bs x)] 317:=Blk.call (bkx) hb1;have c1:=k1.cell;have f1:=k1.frozen;have l1:=k1.lt;have c0:=k0.cell;have f0:=k0.frozen;have l0:=k0.lt;have hbw:Below w.heap.size w w1:=pbx;have kr:=k1.other (p:=⟨w.heap.size,0,none⟩) (by simp) (.int .u64 b);have kq:=(k0.set (o:=0) (.int .u64 b)).cell;have hbw2:=zn hbw (p:=⟨w.heap.size,0,none⟩) (N0 _) (.int .u64 b);have rr:=(((kr.set (o:=0) (.int .u64 b)).set (o:=1) (.int .u64 q)).set (o:=2) (.string (bs<|x))).cell;go_wp2;exact bodyPost_ret (v:=.tuple #[.agg #[.int .u64 b,.int .u64 q,.string (bs<|x)],.int .i64 0]) (by simp [results,Tryz.results302,go_sem,rr]) rfl ⟨by first|rfl|simp,zn (zn (zn hbw2 (by simp) _) (by simp) _) (by simp) _⟩
theorem zha(v:jl)(b:Nat)(y:List UInt8)(w:World):Calls prog 300 #[yN v,.int .u64 b,.string (bs y)] w λe w'=>e=.returned (zaa (Yj v b y))/\Below w.heap.size w w':=by
 have hr:=λW=>Yq v W
 have hfit:=λbb W h=>VZ bb y W h
 have hp:Yj v b y=if j7 v=false∨b<1∨4000<y.length then((0,0,[]),2)else if b<v.1 then((0,0,[]),80)else((b,b,y),0):=rfl
 generalize j7 v=ok at*
 obtain⟨p,q,x⟩:=v;unfold zaa yN at*;simp only at hr hp⊢;have hfd:decide (y.length<=4000)= !decide (4000<y.length):=by by_cases h:y.length<=4000<;>simp [h] <;>omega
 rw [hfd] at hfit;replace hr:=hid hr
 cases ok
 ·rw [if_pos (.inl rfl)] at hp
  rw [hp];replace hp:=hid hp;replace hfit:=hid hfit
  go_enter func300,ntmps300
  go_wp2_with fail
  refine(hr.out _).mono ?_;rintro e w1⟨rfl,hb1⟩;have k1:Blk w1 (w.heap.size+1) #[.int .u64 0,.int .u64 0,.string ⟨#[]⟩] 317:=Blk.call (bkx) hb1;have k0:Blk w1 w.heap.size #[.int .u64 p,.int .u64 q,.string (bs x)] 317:=Blk.call (bkx) hb1;have c1:=k1.cell;have f1:=k1.frozen;have l1:=k1.lt;have c0:=k0.cell;have f0:=k0.frozen;have l0:=k0.lt;have hbw:Below w.heap.size w w1:=pbx;have kr:=k1;have hbw2:=hbw;have rr:=(((kr.set (o:=0) (.int .u64 0)).set (o:=1) (.int .u64 0)).set (o:=2) (.string ⟨#[]⟩)).cell;go_wp2;exact bodyPost_ret (v:=.tuple #[.agg #[.int .u64 0,.int .u64 0,.string ⟨#[]⟩],.int .i64 2]) (by simp [results,Tryz.results300,go_sem,rr]) rfl ⟨by first|rfl|simp,zn (zn (zn hbw2 (by simp) _) (by simp) _) (by simp) _⟩
 ·by_cases hb1:b<1
  ·rw [if_pos (.inr (.inl hb1))] at hp
   rw [hp];have t1:decide ((b:Int)<1)=true:=by simp;omega
   replace hp:=hid hp;replace hfit:=hid hfit;replace hb1:=hid hb1
   go_enter func300,ntmps300
   go_wp2_with fail
   refine(hr.out _).mono ?_;rintro e w1⟨rfl,hb1⟩;have k1:Blk w1 (w.heap.size+1) #[.int .u64 0,.int .u64 0,.string ⟨#[]⟩] 317:=Blk.call (bkx) hb1;have k0:Blk w1 w.heap.size #[.int .u64 p,.int .u64 q,.string (bs x)] 317:=Blk.call (bkx) hb1;have c1:=k1.cell;have f1:=k1.frozen;have l1:=k1.lt;have c0:=k0.cell;have f0:=k0.frozen;have l0:=k0.lt;have hbw:Below w.heap.size w w1:=pbx;have kr:=k1;have hbw2:=hbw;have rr:=(((kr.set (o:=0) (.int .u64 0)).set (o:=1) (.int .u64 0)).set (o:=2) (.string ⟨#[]⟩)).cell;go_wp2;exact bodyPost_ret (v:=.tuple #[.agg #[.int .u64 0,.int .u64 0,.string ⟨#[]⟩],.int .i64 2]) (by simp [results,Tryz.results300,go_sem,rr]) rfl ⟨by first|rfl|simp,zn (zn (zn hbw2 (by simp) _) (by simp) _) (by simp) _⟩
  ·have t1:decide ((b:Int)<1)=false:=by simp;omega
   by_cases hy:4000<y.length
   ·rw [if_pos (.inr (.inr hy))] at hp
    rw [hp];rw [show decide (4000<y.length)=true by simpa using hy] at hfit;replace hp:=hid hp;replace hfit:=hid hfit;replace hb1:=hid hb1;replace hy:=hid hy;clear hfd
    go_enter func300,ntmps300
    go_wp2_with fail
    refine(hr.out _).mono ?_;rintro e w1⟨rfl,hb1⟩;have k1:Blk w1 (w.heap.size+1) #[.int .u64 0,.int .u64 0,.string ⟨#[]⟩] 317:=Blk.call (bkx) hb1;have k0:Blk w1 w.heap.size #[.int .u64 p,.int .u64 q,.string (bs x)] 317:=Blk.call (bkx) hb1;have c1:=k1.cell;have f1:=k1.frozen;have l1:=k1.lt;have c0:=k0.cell;have f0:=k0.frozen;have l0:=k0.lt;have hbw:Below w.heap.size w w1:=pbx;go_wp2_with fail
    refine(hfit.out _ _ (by simp)).mono ?_;rintro e w2⟨rfl,rfl⟩;have kr:=k1.alloc (.cells #[.string (bs y)] 9);have cr:=kr.cell;have fr:=kr.frozen;have lr:=kr.lt;have rr:=((((k1.set (o:=0) (.int .u64 0)).set (o:=1) (.int .u64 0)).set (o:=2) (.string ⟨#[]⟩)).alloc (.cells #[.string (bs y)] 9)).cell;go_wp2;exact bodyPost_ret (v:=.tuple #[.agg #[.int .u64 0,.int .u64 0,.string ⟨#[]⟩],.int .i64 2]) (by simp [results,Tryz.results300,go_sem,rr]) rfl ⟨by first|rfl|simp,zi (zn (zn (zn hbw (by simp) _) (by simp) _) (by simp) _) _⟩
   ·rw [if_neg (by simp;omega)] at hp
    rw [show decide (4000<y.length)=false by simpa using hy] at hfit;replace hfit:=hid hfit;replace hb1:=hid hb1;replace hy:=hid hy;clear hfd
    by_cases hbp:b<p
    ·rw [if_pos hbp] at hp
     rw [hp];have t2:decide ((b:Int)<(p:Int))=true:=by simpa using hbp
     replace hp:=hid hp;replace hbp:=hid hbp
     go_enter func300,ntmps300
     go_wp2_with fail
     refine(hr.out _).mono ?_;rintro e w1⟨rfl,hb1⟩;have k1:Blk w1 (w.heap.size+1) #[.int .u64 0,.int .u64 0,.string ⟨#[]⟩] 317:=Blk.call (bkx) hb1;have k0:Blk w1 w.heap.size #[.int .u64 p,.int .u64 q,.string (bs x)] 317:=Blk.call (bkx) hb1;have c1:=k1.cell;have f1:=k1.frozen;have l1:=k1.lt;have c0:=k0.cell;have f0:=k0.frozen;have l0:=k0.lt;have hbw:Below w.heap.size w w1:=pbx;go_wp2_with fail
     refine(hfit.out _ _ (by simp)).mono ?_;rintro e w2⟨rfl,rfl⟩;have kr:=k1.alloc (.cells #[.string (bs y)] 9);have cr:=kr.cell;have fr:=kr.frozen;have lr:=kr.lt;have rr:=((((k1.set (o:=0) (.int .u64 0)).set (o:=1) (.int .u64 0)).set (o:=2) (.string ⟨#[]⟩)).alloc (.cells #[.string (bs y)] 9)).cell;go_wp2;exact bodyPost_ret (v:=.tuple #[.agg #[.int .u64 0,.int .u64 0,.string ⟨#[]⟩],.int .i64 80]) (by simp [results,Tryz.results300,go_sem,rr]) rfl ⟨by first|rfl|simp,zi (zn (zn (zn hbw (by simp) _) (by simp) _) (by simp) _) _⟩
    ·rw [if_neg hbp] at hp
     rw [hp];have t2:decide ((b:Int)<(p:Int))=false:=by simpa using hbp
     replace hp:=hid hp;replace hbp:=hid hbp
     go_enter func300,ntmps300
     go_wp2_with fail
     refine(hr.out _).mono ?_;rintro e w1⟨rfl,hb1⟩;have k1:Blk w1 (w.heap.size+1) #[.int .u64 0,.int .u64 0,.string ⟨#[]⟩] 317:=Blk.call (bkx) hb1;have k0:Blk w1 w.heap.size #[.int .u64 p,.int .u64 q,.string (bs x)] 317:=Blk.call (bkx) hb1;have c1:=k1.cell;have f1:=k1.frozen;have l1:=k1.lt;have c0:=k0.cell;have f0:=k0.frozen;have l0:=k0.lt;have hbw:Below w.heap.size w w1:=pbx;go_wp2_with fail
     refine(hfit.out _ _ (by simp)).mono ?_;rintro e w2⟨rfl,rfl⟩;have kr:=k1.alloc (.cells #[.string (bs y)] 9);have cr:=kr.cell;have fr:=kr.frozen;have lr:=kr.lt;have rr:=((((k1.set (o:=0) (.int .u64 b)).set (o:=1) (.int .u64 b)).set (o:=2) (.string (bs<|y))).alloc (.cells #[.string (bs y)] 9)).cell;go_wp2;exact bodyPost_ret (v:=.tuple #[.agg #[.int .u64 b,.int .u64 b,.string (bs<|y)],.int .i64 0]) (by simp [results,Tryz.results300,go_sem,rr]) rfl ⟨by first|rfl|simp,zi (zn (zn (zn hbw (by simp) _) (by simp) _) (by simp) _) _⟩
def jZ(x:List UInt8):Value:=.agg #[.string (bs x)]
def qf(vb kb:Nat)(p:xn):Array Value:=#[.map (some vb),.map (some kb),.int .i64 (p.length:Nat),.int .i64 0]
def j4(B:Nat)(p:xn)(t:List Nat)(ow:Own)(W:World):Prop:=
 p.length<=10000/\∃vb kb,Blk W B (qf vb kb p) 227/\jc W vb XK (p.votes.map λq=>(q.1,yN q.2))/\jc W kb XK (p.known.map λq=>(q.1,jZ q.2))/\vb≠kb/\ow B=t/\ow vb=t/\ow kb=t
theorem j4.loc(B:Nat)(p:xn)(t:List Nat):yK t (j4 B p t):=by
 rintro ow ow' W W'⟨hl,vb,kb,hB,hv,hk,hne,o1,o2,o3⟩ hs hkk;have kB:=hkk B hB.lt (by rw [o1];exact Sub.rfl' t);have kv:=hkk vb hv.lt (by rw [o2];exact Sub.rfl' t);have kk:=hkk kb hk.lt (by rw [o3];exact Sub.rfl' t);exact⟨hl,vb,kb,hB.kept kB.2,hv.kept kv.2,hk.kept kk.2,hne,kB.1.trans o1,kv.1.trans o2,kk.1.trans o3⟩
def V0(B:Nat)(p:xn)(t:List Nat)(ow:Own)(w:World)(v:Value)(e:Ending)(w':World):Prop:=
 e=.returned v/\∃ow',zq t ow w ow' w'/\j4 B p t ow' w'
def zfc(t:List Nat)(ow:Own)(w:World)(e:Ending)(w':World):Prop:=
 ∃B ow',e=.returned (.pointer (some ⟨B,0,none⟩))/\zq t ow w ow' w'/\Below w.heap.size w w'/\j4 B x9 t ow' w'/\w.heap.size<=B
theorem zhb(t:List Nat)(ow:Own)(w:World):Calls prog 88 #[] w (zfc t ow w):=by
 have hmm:= @run_makeMap prog
 go_enter func88,ntmps88
 go_wp2;go_ret
 have hb:Below w.heap.size w (((w.alloc (.map #[] 0)).alloc (.map #[] 0)).alloc (.cells #[.map (some w.heap.size),.map (some (w.heap.size+1)),.int .i64 0,.int .i64 0] 227)):=pbx;refine⟨w.heap.size+2,ow.ext w.heap.size (λ_=>True) t,rfl,⟨Mod.of_below _ hb,λk hk=>Own.ext_old hk⟩,hb,⟨by simp [x9],w.heap.size,w.heap.size+1,Blk.new (by simp),?_,?_,by omega,Own.ext_new (by omega) trivial,Own.ext_new (by omega) trivial,Own.ext_new (by omega) trivial⟩,by omega⟩
 ·exact((jc.made w XK).kept (U4 _ _ _ (by simp))).kept (U4 _ _ _ (by simp;omega))
 ·have h:=(jc.made (w.alloc (.map #[] 0)) XK).kept (U4 (w.alloc (.map #[] 0)|>.alloc (.map #[] 0)) (.cells #[.map (some w.heap.size),.map (some (w.heap.size+1)),.int .i64 0,.int .i64 0] 227) _ (by simp))
  simpa [x9] using h
theorem Yr(i:Int)(w:World):Calls prog 253 #[.int .i64 i] w λe w'=>e=.returned (.bool (zO i))/\w'=w:=by
 unfold zO
 by_cases h1:1<=i
 ·have t1:decide (1<=i)=true:=by simpa using h1
  rw [t1]
  go_enter func253,ntmps253
  go_wp2;go_ret
  exact⟨by simp,rfl⟩
 ·have t1:decide (1<=i)=false:=by simpa using h1
  rw [t1]
  go_enter func253,ntmps253
  go_wp2;go_ret
  exact⟨by simp,rfl⟩
theorem zfd(i:Int)(w:World):Calls prog 254 #[.int .i64 i] w λe w'=>
 e=.returned (.func (.func 305) #[] #[.pointer (some ⟨w.heap.size,0,none⟩)])/\w'=w.alloc (.cells #[.int .i64 i] 3):=by
 go_enter func254,ntmps254
 go_wp2;go_ret
 exact⟨rfl,rfl⟩
theorem zc1(cb:Nat)(n:Nat)(hn:n<=10000):
 XG Fence.wide 2 prog 305 #[.pointer (some ⟨cb,0,none⟩)] (λx:Nat=> #[.int .i64 (x:Nat)])
  (λ(s:Nat) x=>s<10000/\x=s+1) (λs _=>s+1) (λs=>s=10000)
  (λ_ W=>Blk W cb #[.int .i64 (n:Nat)] 3) n:=by
 intro lp J Jx W hJ hJx hRd hY h0;have e0:=(hRd _ _ _ h0).cell;have hF:Fence.wide.fn 305:=trivial;have hro:Fence.wide.round=none:=rfl;have hw:IntKind.i64.wrap ((n:Int)+1)=(n:Int)+1:=by rw [N8];omega
 refine callsIn_of_wp func305 rfl hF ?_ hro;simp only [ntmps305,R8,Nat.reduceAdd,Nat.reduceSub]
 gi_wp2
 gi_loopw [3] (λp wr=>∃(k:Nat)(X:Nat->Prop),p=.int .i64 ((k:Int)+1)/\k<=10000/\J k X wr) (λp _=>10001 - (intOf p).toNat)
 case atStart=>exact⟨n,_,rfl,hn,h0⟩
 case round=>
  obtain⟨k,X,rfl,hk,hJs⟩:=hrel;clear e0;have hw2:IntKind.i64.wrap ((k:Int)+1+1)=(k:Int)+1+1:=by rw [N8];omega
  by_cases hlt:k<10000
  ·have t0:decide ((k:Int)+1<=10000)=true:=by simp;omega
   obtain⟨fn,tmps,assign,body,hy,hR⟩:=hY k (k+1) X wr hJs ⟨hlt,rfl⟩;simp only [Int.natCast_add,Int.cast_ofNat_Int] at hy
   gi_wp2
   refine hR.mono ?_;rintro e W'(⟨rfl,hJ', -⟩|⟨rfl,hx'⟩)
   ·clear hR hy
    gi_wp2
    go_roundw
    case rel=>exact⟨k+1,_,by simp,by omega,hJ'⟩
    case measure=>simp [intOf];omega
   ·gi_wp2
    refine bodyPost_ret (results_none rfl _ _ _) rfl ?_;exact⟨⟨_,rfl⟩,.inr ⟨_,hx'⟩⟩
  ·obtain rfl:k=10000:=by omega
   gi_wp2
   go_end0
   exact⟨⟨_,rfl⟩,.inl ⟨10000,X,rfl,hJs⟩⟩
theorem zj9(n:Nat):le4 (n % 4294967296)=le4 n:=by
 unfold le4;simp only [List.cons.injEq,and_true];refine⟨?_,?_,?_,?_⟩<;>(apply UInt8.toNat_inj.1;simp<;>omega)
theorem Qg(n:Nat)(hn:n<18446744073709551616)(w:World):Calls prog 301 #[.int .u64 n] w λe w'=>e=.returned (.string (bs (le8 n)))/\Below w.heap.size w w':=by
 have h1:IntKind.u32.wrap (n:Int)=((n % 4294967296:Nat):Int):=by rw [IntKind.wrap_u32];omega
 have h2:IntKind.u32.wrap ((n:Int) / 4294967296)=((n / 4294967296:Nat):Int):=by rw [IntKind.wrap_u32];omega
 have hp1:=λW=>yI (n % 4294967296) W
 have hp2:=λW=>yI (n / 4294967296) W
 rw [zj9] at hp1;have hadd:=ZR (le4 n) (le4 (n / 4294967296)) (by simp [zY]);unfold le8;replace hp1:=hid hp1;replace hp2:=hid hp2
 go_enter func301,ntmps301
 go_wp2_with fail
 refine(hp1.out _).mono ?_;rintro e w1⟨rfl,hb1⟩;go_wp2_with fail
 refine(hp2.out _).mono ?_;rintro e w2⟨rfl,hb2⟩;go_wp2;go_ret
 exact⟨rfl,zg hb1 hb2⟩
def zjC(S:Act->World->Prop):Exit->Act->World->Prop
 | .normal,a,w=>S a w
 |_,_,_=>False
theorem zkQ {S:Act->World->Prop}{a:Act}{w:World}(h:S a w):zjC S .normal a w:=h
theorem zka {P:Program}{c:Code}{Q:Exit->Act->World->Prop}{a:Act}{w:World}(S:Act->World->Prop)(h:c.wp P (zjC S) a w)(h2:∀a' w',S a' w'->Q .normal a' w'):c.wp P Q a w:=
 wp_mono h (λe a' w' hs=>by
  cases e with
  |normal=>exact h2 a' w' hs
  |_=>exact hs.elim)
theorem zhc(kind:UInt8)(i:Int)(h0:0<=i)(v:Value)(ts:List (List UInt8))(w:World)(hv:Src w v 1 ts.length (yD ts))(hl:ts.length<=1000000)(hb:QN ts ts.length<=1073741000):
 Calls prog 255 #[.int .u8 (kind.toNat:Int),.int .i64 i,v] w λe w'=>e=.returned (.string (bs (xr kind i ts.flatten)))/\Below w.heap.size w w':=by
 have hwr:IntKind.u32.wrap i=((i.toNat % 4294967296:Nat):Int):=by rw [IntKind.wrap_u32];omega
 have hadd:=ZR [kind] (le4 (i.toNat % 4294967296)) (by simp [zY]);obtain⟨hd,hhd⟩:∃hd,[kind] ++le4 (i.toNat % 4294967296)=hd:=⟨_,rfl⟩;have hdl:hd.length=5:=by rw [← hhd];simp [zY]
 have hrec:xr kind i ts.flatten=hd++ts.flatten:=by unfold xr;rw [hhd]
 rw [hhd] at hadd;rw [hrec]
 generalize i.toNat % 4294967296=m at*
 obtain⟨va,vn,vc,hvs⟩:∃a n c,v=.slice a n c:=by
  rcases hv.2 with⟨rfl, -⟩|⟨b,off,cap,rfl, -⟩
  ·exact⟨_,_,_,rfl⟩
  ·exact⟨_,_,_,rfl⟩
 subst hvs;have hcv:=zdZ kind;replace hrec:=hid hrec;replace hhd:=hid hhd;replace hv:=hid hv;replace hdl:=hid hdl
 go_enter func255,ntmps255
 go_wp2_with fail
 refine zka (λa' w'=>(∃p,a'={tmps:=#[.int .u8 kind.toNat,.int .i64 i,.slice va vn vc,undef,undef,undef,.string ⟨#[]⟩,.string (bs hd),undef,undef,.int .u8 kind.toNat,p,.string (bs [kind]),.int .i64 i,.int .u32 m,.string (bs (le4 m)),.string (bs hd),undef,undef,undef,undef,undef,undef,undef,undef,undef,undef,undef],defers:=[] })/\Below w.heap.size w w') ?_ ?_
 ·go_region_with (go_at_call 134;(with_reducible refine(yI _ _).mono ?_);rintro e w1 ⟨rfl,hb⟩;have hz:=hb.size;obtain⟨hcA,hfA⟩:=zaD hb)
  all_goals go_simp
  all_goals exact zkQ ⟨⟨_,rfl⟩,pbx⟩
 ·rintro _ W⟨⟨p,rfl⟩,hbW⟩
  have hvW:=hv.out.below hbW;clear hv hcv hadd
  rcases hvW.2 with⟨h0,hn⟩|⟨b,off,cap,h0,hc,hr⟩
  ·obtain⟨rfl,rfl,rfl⟩:va=none/\vn=0/\vc=0:=by simpa using h0
   obtain rfl:ts=[]:=N9 hn;clear hvW;go_wp2
   go_loop [7,19] (λp7 p19=>p19=.int .i64 0/\p7=.string (bs hd)) (λ_ _=>0)
   case atStart=>exact⟨rfl,rfl⟩
   case round=>
    obtain⟨rfl,rfl⟩:=hrel;go_wp2;go_ret
    exact⟨by simp,hbW⟩
  ·obtain⟨rfl,rfl,rfl⟩:va=some ⟨b,off,none⟩/\vn=ts.length/\vc=cap:=by simpa using h0
   clear h0 hvW;go_wp2
   go_loop [7,19] (λp7 p19=>∃k:Nat,k<=ts.length/\p19=.int .i64 k/\p7=.string (bs (hd++(ts.take k).flatten))) (λ_ p19=>ts.length - (intOf p19).toNat)
   case atStart=>exact⟨0,Nat.zero_le _,rfl,by simp⟩
   case round=>
    obtain⟨k,hk,rfl,rfl⟩:=hrel
    by_cases hlt:k<ts.length
    ·obtain⟨x,hx⟩:∃x,ts[k]?=some x:=⟨_,N3 hlt⟩
     have hc0:W.cell? ⟨b,off+k,none⟩=some (.string (bs x)):=hr k _ (by simp [yD,hx]);have hl2:=Vw ts (k+1);have hfl:=Jq ts k x hx;rw [Jr hx] at hl2;have hadd:=ZR (hd++(ts.take k).flatten) x (by have h2:QN ts k=(ts.take k).flatten.length:=rfl;have:=hdl.out;rw [N1];omega) W;rw [List.append_assoc,← hfl] at hadd;replace hfl:=hid hfl;replace hx:=hid hx;clear hr;go_wp2
     go_round
     case rel=>exact⟨k+1,by omega,by go_num,rfl⟩
     case measure=>simp [intOf];omega
    ·obtain rfl:k=ts.length:=by omega
     rw [List.take_length];clear hr;go_wp2;go_ret
     exact⟨rfl,hbW⟩
