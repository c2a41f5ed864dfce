/- PARTS OF THE PROOF. -/
import Derived.Test.YtofppfoioodblaaGreatDoorTT06
import Derived.Test.YtofppfoioodblaaGreatDoorTT09
import Derived.Test.YtofppfoioodblaaGreatDoorTT11
import Derived.Test.YtofppfoioodblaaGreatDoorTT14
set_option maxRecDepth 8000
set_option maxHeartbeats 4000000
open Go.Proofs.Tryz
namespace Go.Proofs.YtofppfoioodblaaGreatDoor
section
open Go Go.RowKit Go.Shelf Go.Extern.Stop Go.Stop Go.Extern
attribute [local go_sem] Oper.semAt_some zv zm
theorem zeY {la lb:List zy}{k:Nat}{x y:zy}(h:la.take k=lb.take k)(hx:la[k]?=some x)(hy:lb[k]?=some y)(he:x=y):la.take (k+1)=lb.take (k+1):=by
 rw [List.take_add_one,List.take_add_one,h,hx,hy,he]
theorem zcJ(va vb:Value)(la lb:List zy)(w:World)(ha:Src w va 3 la.length (la.flatMap zh))(hb:Src w vb 3 lb.length (lb.flatMap zh))(hl:la.length<=9223372036854775807)(_hl2:lb.length<=9223372036854775807):
 Calls prog 29 #[va,vb] w λe w'=>e=.returned (.bool (decide (la=lb)))/\Below w.heap.size w w':=by
 obtain⟨aa,ca,rfl⟩:=ha.shape;obtain⟨ab,cb,rfl⟩:=hb.shape
 by_cases hlen:la.length=lb.length
 ·have t0:((la.length:Int) !=(lb.length:Int))=false:=by simp;omega
  rw [hlen] at ha⊢
  go_enter func29,ntmps29
  go_wp2
  go_loopw [5] (λp5 wr=>∃k:Nat,p5=.int .i64 k/\k<=lb.length/\la.take k=lb.take k/\Below w.heap.size w wr) (λp5 _=>lb.length - (intOf p5).toNat)
  case atStart=>exact⟨0,rfl,Nat.zero_le _,rfl,N2 _ _⟩
  case round=>
   obtain⟨k,rfl,hk,htk,hbw⟩:=hrel
   by_cases hlt:k<lb.length
   ·obtain⟨x,hx⟩:∃x,la[k]?=some x:=⟨_,N3 (by omega)⟩
    obtain⟨y,hy⟩:∃y,lb[k]?=some y:=⟨_,N3 hlt⟩
    rcases(ha.below hbw).2 with⟨h,h'⟩|⟨ma,oa,ca',h,_,hra⟩
    ·omega
    cases h
    rcases(hb.below hbw).2 with⟨h,h'⟩|⟨mb,ob,cb',h,_,hrb⟩
    ·omega
    cases h
    have hca:∀j,j<3->wr.cell? ⟨ma,oa+(k*3+j),none⟩=(zh x)[j]?:=λj hj=>by
     have h1:=xG la k x hx j hj
     cases hu:(zh x)[j]? with
     |none=>simp [zh] at hu;omega
     |some u=>exact hra _ u (h1.trans hu)
    have hcb:∀j,j<3->wr.cell? ⟨mb,ob+(k*3+j),none⟩=(zh y)[j]?:=λj hj=>by
     have h1:=xG lb k y hy j hj
     cases hu:(zh y)[j]? with
     |none=>simp [zh] at hu;omega
     |some u=>exact hrb _ u (h1.trans hu)
    have a0:wr.cell? ⟨ma,oa+k*3,none⟩=(zh x)[0]?:=hca 0 (by omega);have a1:wr.cell? ⟨ma,oa+k*3+1,none⟩=(zh x)[1]?:=hca 1 (by omega);have a2:wr.cell? ⟨ma,oa+k*3+2,none⟩=(zh x)[2]?:=hca 2 (by omega);have b0:wr.cell? ⟨mb,ob+k*3,none⟩=(zh y)[0]?:=hcb 0 (by omega);have b1:wr.cell? ⟨mb,ob+k*3+1,none⟩=(zh y)[1]?:=hcb 1 (by omega);have b2:wr.cell? ⟨mb,ob+k*3+2,none⟩=(zh y)[2]?:=hcb 2 (by omega);have hq:=zj2 x y;obtain⟨q,hqd⟩:∃q,decide (x≠y)=q:=⟨_,rfl⟩;rw [hqd] at hq;replace htk:=hid htk;obtain⟨x0,hxx⟩:∃x',x'=x:=⟨_,rfl⟩;obtain⟨y0,hyy⟩:∃y',y'=y:=⟨_,rfl⟩;rw [← hxx] at hx hqd;rw [← hyy] at hy hqd;replace hqd:=hid hqd;replace hxx:=hid hxx;replace hyy:=hid hyy;obtain⟨⟨i,c⟩,d⟩:=x;obtain⟨⟨i',c'⟩,d'⟩:=y;simp only [zh,List.getElem?_cons_zero,List.getElem?_cons_succ] at a0 a1 a2 b0 b1 b2;unfold vo at hq;simp only at hq;clear hca hcb hra hrb;replace hx:=hid hx;replace hy:=hid hy;have hlti:(k:Int)<(lb.length:Int):=by omega
    have hk0:(0:Int)<=(k:Int):=by omega
    go_wp2
    go_quiet (fail)
    cases q
    ·have hxy0:x0=y0:=by have:=hqd.out;simpa using this
     have hxy:=hid hxy0;clear hxy0;go_wp2
     go_roundw
     case rel=>exact⟨k+1,by go_num,by omega,zeY htk.out hx.out hy.out hxy.out,below_drewN hbw _⟩
     case measure=>simp [intOf];omega
    ·have hxy:x0≠y0:=by have:=hqd.out;simpa using this
     have hd:decide (la=lb)=false:=by
      simp only [decide_eq_false_iff_not];intro h;have h1:=hx.out;rw [h,hy.out] at h1;exact hxy (Option.some.inj h1).symm
     replace hd:=hid hd;clear hxy;go_wp2;go_ret
     exact⟨by rw [hd.out];rfl,below_drewN hbw _⟩
   ·obtain rfl:k=lb.length:=by omega
    have hd:decide (la=lb)=true:=by
     rw [← hlen,List.take_length,hlen,List.take_length] at htk
     simpa using htk
    clear ha hb;replace htk:=hid htk;replace hd:=hid hd;replace hlen:=hid hlen;go_wp2;go_ret
    exact⟨by rw [hd.out];rfl,hbw⟩
 ·have t0:((la.length:Int) !=(lb.length:Int))=true:=by simp;omega
  have hne:la≠lb:=λh=>hlen (by rw [h])
  have hd:decide (la=lb)=false:=by simpa using hne
  rw [hd];clear ha hb hlen hne hd
  go_enter func29,ntmps29
  go_wp2;go_ret
  exact⟨rfl,N2 _ _⟩
end
section
open Go Go.RowKit
structure Y8(f:yJ)(k:Nat):Prop where
 ok:vO f.book
 few:qz f.book<=64*k
 eras:f.eras.length<=k+1
 low:0<=f.count
 high:f.count<=k
theorem zgZ(v:Int):Y8 (q8 v) 0:=⟨zeH,by simp [q8,qz,xL],by simp [q8],by simp [q8],by simp [q8]⟩
theorem Y8.mono {f:yJ}{k n:Nat}(h:Y8 f k)(hk:k<=n):Y8 f n:=⟨h.ok,by have:=h.few;omega,by have:=h.eras;omega,h.low,by have:=h.high;omega⟩
theorem Y8.begin {f:yJ}{k:Nat}(h:Y8 f k)(v:Int)(sw:Bool)(he:f.eras.length<=k):Y8 (vG f v sw) k:=
 ⟨h.ok,h.few,by simp [vG];exact he,h.low,h.high⟩
theorem zcK {f:yJ}{k:Nat}(h:Y8 f k)(e:jy):Y8 (jX f e).1 (k+1):=by
 have h1:Y8 {f with count:=f.count+1} (k+1):=⟨h.ok,by have:=h.few;show qz f.book<=_;omega,by have:=h.eras;show f.eras.length<=_;omega,by have:=h.low;show 0<=f.count+1;omega,by have:=h.high;show f.count+1<=_;omega⟩;have h2:({f with count:=f.count+1} :yJ).eras.length<=k+1:=h.eras;unfold jX
 split
 ·exact h.mono (by omega)
 ·rename_i hr
  have hr':ZL e=true:=by simpa using hr
  split
  ·exact h1
  ·split
   ·have hd:=qn h.ok e.msgs
    have hm:=Jt hr';exact⟨hd.1,by have:=hd.2.1;have:=h.few;show qz (zV f.book e.msgs).1<=_;omega,h1.eras,h1.low,h1.high⟩
   ·split
    ·split
     ·exact h1
     ·exact h1.begin _ _ h2
    ·split
     ·exact h1
     ·exact h1.begin _ _ h2
end
open Go
def qk:List Nat->List zy->Prop
 |_,[]=>True
 |tk,x::l=>(0<=x.1.1/\x.1.1<=15/\x.1.2=(tk[x.1.1.toNat]?.getD 0)+1/\x.1.2<=4294967294)/\qk (tk.set x.1.1.toNat x.1.2) l
theorem qd {m:zy}(h:zB m=true):0<=m.1.1/\m.1.1<=15/\m.2.length<=1000/\1<=m.1.2/\m.1.2<=4294967294:=by
 simp [zB] at h
 omega
theorem qk.append:∀ {tk:List Nat} {a b:List zy},qk tk a->qk (xK tk a) b->qk tk (a++b)
 |_,[],_,_,h2=>h2
 |_,_::a,_,h,h2=>⟨h.1,qk.append (a:=a) h.2 h2⟩
theorem za4(tk:List Nat)(a b:List zy):xK tk (a++b)=xK (xK tk a) b:=by simp [xK,List.foldl_append]
theorem VL:∀(n:Nat)(ws:List (MId×zy)) (x:zy) (tk:List Nat),tk.length=16->zcd ws->zB x=true->x.1.2=(tk[x.1.1.toNat]?.getD 0)+1->qk tk (zU n ws x).2
 |0,ws,x,tk,ht,hw,hx,h=>by
  have:=qd hx;exact⟨⟨this.1,this.2.1,h,this.2.2.2.2⟩,trivial⟩
 |n+1,ws,x,tk,ht,hw,hx,h=>by
  have hp:=qd hx;unfold zU
  cases hl:zD (x.1.1,(x.1.2+1)% 4294967296) (del x.1 ws)with
  |none=>exact⟨⟨hp.1,hp.2.1,h,hp.2.2.2.2⟩,trivial⟩
  |some y=>
   have hy:=(hw.del x.1) _ (xz hl);have hy1:y.1=(x.1.1,(x.1.2+1)% 4294967296):=hy.1;refine⟨⟨hp.1,hp.2.1,h,hp.2.2.2.2⟩,?_⟩;refine VL n (del x.1 ws) y _ (by simpa using ht) (hw.del _) hy.2 ?_;rw [hy1];simp only;rw [List.getElem?_set_self (by omega)];simp only [Option.getD_some];omega
theorem za5 {b:vw}(hok:vO b)(m:zy):qk b.tk (xo b m).2.1/\(xo b m).1.tk=xK b.tk (xo b m).2.1:=by
 unfold xo
 split
 ·exact⟨trivial,rfl⟩
 ·rename_i hr
  have hr':zB m=true:=by simpa using hr
  have hp:=qd hr'
  split
  ·split<;>exact⟨trivial,rfl⟩
  ·rename_i hn
   have hn':m.1.2=ZG b m.1.1:=by simpa using hn
   refine⟨VL _ _ _ _ hok.sixteen hok.keys hr' ?_,rfl⟩;unfold ZG at hn';rw [if_pos (by simp [vi];omega)] at hn'
   have hm:b.tk[m.1.1.toNat]?.getD 0<=4294967294:=by
    cases h:b.tk[m.1.1.toNat]? with
    |none=>simp
    |some n=>exact hok.most n (List.mem_of_getElem? h)
   omega
theorem Zf {b:vw}(hok:vO b):∀(l:List zy),qk b.tk (zV b l).2/\(zV b l).1.tk=xK b.tk (zV b l).2
 | []=>⟨trivial,rfl⟩
 |m::l=>by
  have h1:=za5 hok m;have h2:=Zf (zgx hok m) l;simp only [zV];refine⟨h1.1.append (by rw [← h1.2];exact h2.1),?_⟩;rw [h2.2,h1.2,za4]
theorem JC {f:yJ}(hok:vO f.book)(e:jy):qk f.book.tk (jX f e).2.1/\(jX f e).1.book.tk=xK f.book.tk (jX f e).2.1/\(jX f e).1.book.log=f.book.log++(jX f e).2.1/\(e.kind≠1->(jX f e).2.1=[]):=by
 unfold jX
 split
 ·exact⟨trivial,rfl,by simp,λ_=>rfl⟩
 ·split
  ·exact⟨trivial,rfl,by simp,λ_=>rfl⟩
  ·split
   ·rename_i hk
    have h1:=Zf hok e.msgs;exact⟨h1.1,h1.2,(qn hok e.msgs).2.2,λh=>absurd hk h⟩
   ·split
    ·split
     ·exact⟨trivial,rfl,by simp,λ_=>rfl⟩
     ·exact⟨trivial,rfl,by simp [vG],λ_=>rfl⟩
    ·split
     ·exact⟨trivial,rfl,by simp,λ_=>rfl⟩
     ·exact⟨trivial,rfl,by simp [vG],λ_=>rfl⟩
theorem Ym {i:Int}(h0:0<=i)(h:i<=255):((UInt8.ofNat (i % 256).toNat).toNat:Int)=i:=by
 rw [UInt8.toNat_ofNat'];omega
theorem xB(m:zy):(jj m).length=9+m.2.length:=by
 unfold jj;simp [qG];omega
theorem zeZ {m:zy}(h:zB m=true)(rest:List UInt8):vI (jj m++rest)=(m,9+m.2.length):=by
 obtain⟨⟨i,c⟩,d⟩:=m;have hp:=qd h;simp only at hp;have hl:=xB ((i,c),d);simp only at hl;have h1:(jj ((i,c),d)++rest).head?.getD 0=UInt8.ofNat (i % 256).toNat:=rfl;have h2:((jj ((i,c),d)++rest).drop 1).take 4=le4 c:=rfl;have h3:((jj ((i,c),d)++rest).drop 5).take 4=le4 d.length:=rfl;have h4:(jj ((i,c),d)++rest).drop 9=d++rest:=rfl;have hb:=Ym hp.1 (by omega);have hc:c % 4294967296=c:=by omega
 have hd:d.length % 4294967296=d.length:=by omega
 have htk:(d++rest).take d.length=d:=by rw [List.take_left'];rfl
 unfold vI;rw [h1,h2,h3,h4,yW,yW,hc,hd,hb,htk,if_neg (by rw [N1];omega),if_neg (by rw [N1];omega),if_neg (by rw [h];simp)]
theorem YR:∀(l:List zy),l.all zB=true->yL l.length (l.flatMap jj)=some l
 | [],_=>rfl
 |m::l,h=>by
  simp only [List.all_cons,Bool.and_eq_true] at h;have hf:=zeZ h.1 (l.flatMap jj);have hl:=xB m;have hd:(jj m++l.flatMap jj).drop (9+m.2.length)=l.flatMap jj:=by rw [List.drop_left'];omega
  show yL (l.length+1) (jj m++l.flatMap jj)=_
  unfold yL;rw [hf];simp only;rw [if_neg (by omega),hd,YR l h.2];rfl
theorem zcL {l:List zy}(h:(ye l).2=0):l.length<=64/\l.all zB=true/\ye l=([UInt8.ofNat (l.length % 256)] ++l.flatMap jj,0):=by
 unfold ye at h⊢
 split at h
 ·simp at h
 ·rename_i h1
  rw [if_neg h1]
  split at h
  ·rename_i h2
   rw [if_pos h2];exact⟨by omega,h2,rfl⟩
  ·simp at h
theorem VM {l:List zy}(h:(ye l).2=0):jK (ye l).1=(l,0):=by
 obtain⟨h1,h2,h3⟩:=zcL h;rw [h3];unfold jK;have hb:(UInt8.ofNat (l.length % 256)).toNat=l.length:=by rw [UInt8.toNat_ofNat'];omega
 simp only [List.cons_append,List.nil_append];rw [hb,if_neg (by omega),YR l h2]
theorem Q0 {m:zy}(h:zB m=true):ye [m]=([1] ++jj m,0):=by
 unfold ye;rw [if_neg (by simp),if_pos (by simp [h])];simp
theorem VN {e:jy}(h:(jv e).2=0):xM e=true/\(ye e.msgs).2=0/\(jv e).1=[UInt8.ofNat (e.kind % 256).toNat] ++le4 e.epoch++ [UInt8.ofNat (e.ver % 256).toNat] ++(ye e.msgs).1/\(jv e).1.length<=4000:=by
 unfold jv at h⊢
 split at h
 ·simp at h
 ·rename_i h1
  rw [if_neg h1]
  split at h
  ·simp at h
  ·rename_i h2
   rw [if_neg h2]
   split at h
   ·simp at h
   ·rename_i h3
    rw [if_neg h3];exact⟨by simpa using h1,by simpa using h2,rfl,Nat.le_of_not_lt h3⟩
theorem za6 {e:jy}(h:xM e=true):(1<=e.kind/\e.kind<=3)/\0<=e.ver/\e.ver<=255:=by
 unfold xM at h
 split at h
 ·simp at h;omega
 ·split at h
  ·simp at h;omega
  ·split at h
   ·simp at h;omega
   ·cases h
theorem Q1 {e:jy}(h:(jv e).2=0)(hep:e.epoch<4294967296):jo (jv e).1=(e,0):=by
 obtain⟨h1,h2,h3,h4⟩:=VN h;obtain⟨hk,hv⟩:=za6 h1;obtain⟨q1,q2,q3⟩:=zcL h2;have hu:=VM h2;obtain⟨k,ep,v,ms⟩:=e;simp only at hk hv hep h2 q1 q2 q3 hu;have a1:(jv ⟨k,ep,v,ms⟩).1.head?.getD 0=UInt8.ofNat (k % 256).toNat:=by rw [h3];rfl
 have a2:((jv ⟨k,ep,v,ms⟩).1.drop 1).take 4=le4 ep:=by rw [h3];rfl
 have a3:((jv ⟨k,ep,v,ms⟩).1.drop 5).head?.getD 0=UInt8.ofNat (v % 256).toNat:=by rw [h3];rfl
 have a4:(jv ⟨k,ep,v,ms⟩).1.drop 6=(ye ms).1:=by rw [h3];rfl
 have a5:6<=(jv ⟨k,ep,v,ms⟩).1.length:=by rw [h3];simp [qG];omega
 have b1:=Ym (i:=k) (by omega) (by omega);have b2:=Ym (i:=v) (by omega) (by omega);have hep':ep % 4294967296=ep:=by omega
 unfold jo;rw [if_neg (by omega),a4,hu,if_neg (by simp),a1,a2,a3,yW,b1,b2,hep'];have hfin:jv {kind:=k,epoch:=ep,ver:=v,msgs:=(ms,(0:Int)).1} =((jv {kind:=k,epoch:=ep,ver:=v,msgs:=ms}).1,0):=Prod.ext rfl h;rw [if_pos hfin]
theorem zg0 {f:yJ}{e:jy}(h:(jX f e).2.2.2≠0):jX f e=(f,[],false,140):=by
 unfold jX at h⊢
 split
 ·rfl
 ·rename_i h1
  rw [if_neg h1] at h
  exfalso
  revert h
  repeat' split
  all_goals simp
theorem VO(L:zR)(e:jy)(fails:Bool):(j6 L e fails).1.fold=(jX L.fold e).1:=by
 unfold j6
 split
 ·rfl
 ·unfold yw zh8 ya qo
  repeat' split
  all_goals rfl
theorem xS(L:zR)(R:yJ×List zy×Bool×Int)(fails:Bool):(zh8 L R fails).held=L.held/\(zh8 L R fails).log=L.log:=by
 unfold zh8 ya
 split<;>exact⟨rfl,rfl⟩
theorem za7(L:zR):(yw L).1.log++(yw L).1.held=L.log++L.held:=by
 unfold yw
 split<;>simp
theorem za8(L:zR):(yw L).2.length<=L.held.length:=by
 unfold yw
 split<;>simp
structure vQ(L:zR)(k:Nat):Prop where
 fold:Y8 L.fold k
 all:L.log++L.held=L.fold.book.log
theorem vQ.mono {L:zR}{k n:Nat}(h:vQ L k)(hk:k<=n):vQ L n:=⟨h.fold.mono hk,h.all⟩
theorem zjz(v:Int)(s:StD):vQ (zh9 v s) 0:=⟨zgZ v,rfl⟩
theorem vQ.len {L:zR}{k:Nat}(h:vQ L k):L.log.length+L.held.length<=64*k:=by
 have h1:=congrArg List.length h.all;rw [N1] at h1;have h2:=h.fold.few;unfold qz at h2;omega
theorem Q2 {L:zR}{k:Nat}(h:vQ L k)(e:jy)(fails:Bool):vQ (j6 L e fails).1 (k+1):=by
 refine⟨by rw [VO];exact zcK h.fold e,?_⟩;rw [VO,(JC h.fold.ok e).2.2.1];unfold j6
 split
 ·rename_i hr
  have:=zg0 hr;rw [this];simp only [List.append_nil];exact h.all
 ·rw [za7]
  unfold qo;simp only [(xS L _ fails).1,(xS L _ fails).2];rw [← List.append_assoc,h.all]
theorem za9 {f:yJ}{k:Nat}(h:Y8 f k)(e:jy):(jX f e).2.1.length<=64*(k+1):=by
 have h1:=(zcK h e).few;have h2:=(JC h.ok e).2.2.1;unfold qz at h1;rw [h2,N1] at h1;omega
def jV(q:List zy×xn)(r:List UInt8):List zy×xn:=
 match r with
 | []=>q
 |k::d=>if k=109/\(jK d).2=0/\(jK d).1.length=1 then(q.1++(jK d).1,q.2)else(q.1,yx q.2 r)
def RR(l:List (List UInt8)):List zy×xn:=l.foldl jV ([],x9)
theorem zcM(l:List (List UInt8))(r:List UInt8):RR (l++ [r])=jV (RR l) r:=by simp [RR,List.foldl_append]
theorem zg1(n:zp)(r:List UInt8):yg n r={n with acc:=(jV (n.acc,n.pax) r).1,pax:=(jV (n.acc,n.pax) r).2} :=by
 unfold yg jV
 cases r with
 |nil=>rfl
 |cons k d=>simp only;split<;>rfl
theorem Q3:∀(l:List (List UInt8)) (n:zp),l.foldl yg n={n with acc:=(l.foldl jV (n.acc,n.pax)).1,pax:=(l.foldl jV (n.acc,n.pax)).2}
 | [],n=>rfl
 |r::l,n=>by
  rw [List.foldl_cons,Q3 l,zg1];simp only [List.foldl_cons]
def zjA(L:zR)(e:jy):Int:=
 if e.kind=2 then e.ver else if e.kind=3 then(if 1<L.fold.eras.length then((L.fold.eras[L.fold.eras.length - 2]?).getD (0,0,0)).2.1 else 0)else 0
def ql(bad:List Int)(L:zR)(x:List UInt8):zR:=if(jo x).2≠0 then L else(j6 L (jo x).1 (bad.contains (zjA L (jo x).1))).1
def zba(v:Int)(bad:List Int)(s:StD)(vals:List (List UInt8)):zR:=vals.foldl (ql bad) (zh9 v s)
theorem X9(v:Int)(bad:List Int)(s:StD)(vals:List (List UInt8))(x:List UInt8):zba v bad s (vals++ [x])=ql bad (zba v bad s vals) x:=by simp [zba,List.foldl_append]
theorem zbb(L:zR):L.log<+:(yw L).1.log:=by
 unfold yw
 split
 ·exact U0 _
 ·exact List.prefix_append _ _
theorem ze0(L:zR)(e:jy)(b:Bool):L.log<+:(j6 L e b).1.log:=by
 unfold j6
 split
 ·exact U0 _
 ·have h:=zbb (qo (zh8 L (jX L.fold e) b) (jX L.fold e).2.1)
  have h2:(qo (zh8 L (jX L.fold e) b) (jX L.fold e).2.1).log=L.log:=(xS L _ b).2;rw [h2] at h;exact h
theorem zcN(bad:List Int)(L:zR)(x:List UInt8):L.log<+:(ql bad L x).log:=by
 unfold ql
 split
 ·exact U0 _
 ·exact ze0 _ _ _
theorem zbc(v:Int)(bad:List Int)(s:StD)(a b:List (List UInt8)):(zba v bad s a).log<+:(zba v bad s (a++b)).log:=by
 induction b generalizing a with
 |nil=>rw [List.append_nil];exact U0 _
 |cons x b ih=>
  have h1:=zcN bad (zba v bad s a) x;rw [← X9] at h1;have h2:=ih (a++ [x]);rw [List.append_assoc] at h2;exact h1.trans h2
def xt(n:zp)(s:StD)(known:List (Int×List UInt8))(vals:List (List UInt8)):Prop:=
 vals.length=n.applied/\n.loc=zba n.version n.bad s vals/\∀(j:Nat)(x:List UInt8),vals[j]?=some x->zD ((j:Int)+1) known=some x
structure xu(n m:zp):Prop where
 id:m.id=n.id
 version:m.version=n.version
 bad:m.bad=n.bad
 store:m.store=n.store
 pax:m.pax=n.pax
 acc:m.acc=n.acc
 down:m.down=n.down
theorem xu.refl(n:zp):xu n n:=⟨rfl,rfl,rfl,rfl,rfl,rfl,rfl⟩
theorem xu.trans {a b c:zp}(h:xu a b)(k:xu b c):xu a c:=⟨k.id.trans h.id,k.version.trans h.version,k.bad.trans h.bad,k.store.trans h.store,k.pax.trans h.pax,k.acc.trans h.acc,k.down.trans h.down⟩
theorem vC:∀(k:Nat)(n:zp),xu n (jG k n)/\(jG k n).loc=n.loc/\(jG k n).applied=n.applied
 |0,n=>⟨xu.refl n,rfl,rfl⟩
 |k+1,n=>by
  unfold jG
  split
  ·exact⟨xu.refl n,rfl,rfl⟩
  ·rename_i m _
   split
   ·have h:=vC k {n with pool:=(zeL n.pool m).1,offered:=n.offered+1}
    exact⟨⟨h.1.id,h.1.version,h.1.bad,h.1.store,h.1.pax,h.1.acc,h.1.down⟩,h.2.1,h.2.2⟩
   ·exact⟨⟨rfl,rfl,rfl,rfl,rfl,rfl,rfl⟩,rfl,rfl⟩
theorem Yn(n:zp)(e:jy):xu n (vJ n e).1/\(vJ n e).1.loc=(j6 n.loc e (n.bad.contains (zjA n.loc e))).1/\(vJ n e).1.applied=n.applied:=by
 unfold vJ;simp only;have h:=vC (n.acc.length+1) {n with loc:=(j6 n.loc e (n.bad.contains (xP n e))).1,wanted:=if vk (j6 n.loc e (n.bad.contains (xP n e))).1.fold.eras=vk n.loc.fold.eras then n.wanted else 0,pool:=ZX (ZX n.pool (j6 n.loc e (n.bad.contains (xP n e))).2.1) (j6 n.loc e (n.bad.contains (xP n e))).1.held};exact⟨⟨h.1.id,h.1.version,h.1.bad,h.1.store,h.1.pax,h.1.acc,h.1.down⟩,h.2.1,h.2.2⟩
theorem VP(s:StD):∀(k:Nat)(n:zp)(vals:List (List UInt8)),xt n s n.pax.known vals->xu n (jn k n).1/\∃more,xt (jn k n).1 s n.pax.known (vals++more)/\(zD (((vals++more).length:Int)+1) n.pax.known=none∨more.length=k)
 |0,n,vals,h=>⟨xu.refl n,[],by simpa [jn] using h,.inr rfl⟩
 |k+1,n,vals,h=>by
  unfold jn
  cases hl:zD ((n.applied:Int)+1) n.pax.known with
  |none=>exact⟨xu.refl n,[],by simpa using h,.inl (by simp only [List.append_nil];rw [h.1];exact hl)⟩
  |some x=>
   simp only
   have step:∀m:zp,xu n m->m.loc=ql n.bad n.loc x->m.applied=n.applied+1->xt m s m.pax.known (vals++ [x]):=λm hs hloc happ=>by
    refine⟨by rw [N1,U2,happ,h.1],?_,λj y hj=>?_⟩
    ·rw [hs.version,hs.bad,X9,← h.2.1];exact hloc
    ·rw [hs.pax]
     rcases Nat.lt_or_ge j vals.length with hlt|hge
     ·rw [U8 hlt] at hj;exact h.2.2 j y hj
     ·rw [U6 hge] at hj
      have:j=vals.length:=by
       have:=(N6.1 hj).1;simp at this;omega
      subst this;simp at hj;subst hj
      rw [h.1];exact hl
   have go:∀m:zp,xu n m->xt m s m.pax.known (vals++ [x])->xu n (jn k m).1/\∃more,xt (jn k m).1 s n.pax.known (vals++more)/\(zD (((vals++more).length:Int)+1) n.pax.known=none∨more.length=k+1):=λm hs ha=>by
    obtain⟨h1,more,h2,h3⟩:=VP s k m (vals++ [x]) ha;rw [hs.pax] at h2 h3;refine⟨hs.trans h1,[x] ++more,by rw [← List.append_assoc];exact h2,?_⟩;rw [← List.append_assoc]
    rcases h3 with h3|h3
    ·exact .inl h3
    ·exact .inr (by simp;omega)
   split
   ·rename_i hd
    refine go _ ⟨rfl,rfl,rfl,rfl,rfl,rfl,rfl⟩ (step _ ⟨rfl,rfl,rfl,rfl,rfl,rfl,rfl⟩ ?_ rfl);unfold ql;rw [if_pos hd]
   ·rename_i hd
    have he:=Yn {n with applied:=n.applied+1} (jo x).1;have hs:xu n (vJ {n with applied:=n.applied+1} (jo x).1).1:=⟨he.1.id,he.1.version,he.1.bad,he.1.store,he.1.pax,he.1.acc,he.1.down⟩;refine go _ hs (step _ hs ?_ he.2.2);unfold ql;rw [if_neg hd];exact he.2.1
def yp(known:List (Int×List UInt8)):Prop:=∀i x,zD i known=some x->1<=i/\i<=10000
theorem ZZ {p:xn}(i:Int)(x:List UInt8):(∀j y,zD j p.known=some y->zD j (zS p i x).1.known=some y)/\(yp p.known->yp (zS p i x).1.known)/\(zS p i x).1.votes=p.votes:=by
 unfold zS
 by_cases h1:zO i=false∨4000<x.length
 ·rw [if_pos h1];exact⟨λ_ _ h=>h,λh=>h,rfl⟩
 ·rw [if_neg h1]
  have hi:zO i=true:=by
   cases hi:zO i
   ·exact absurd (.inl hi) h1
   ·rfl
  cases hl:zD i p.known with
  |some y=>simp only;split<;>exact⟨λ_ _ h=>h,λh=>h,rfl⟩
  |none=>
   refine⟨λj y h=>?_,λh j y hj=>?_,rfl⟩
   ·show zD j (put i x p.known)=some y
    rw [yz]
    split
    ·rename_i e;subst e;rw [hl] at h;cases h
    ·exact h
   ·have hj':zD j (put i x p.known)=some y:=hj
    rw [yz] at hj'
    split at hj'
    ·rename_i e;subst e;exact qp hi
    ·exact h j y hj'
theorem ze1(kind:UInt8)(v:jl)(b:Nat)(x:List UInt8):v.1<=(xO kind v b x).1:=by
 unfold xO
 split<;>exact Nat.le_max_left _ _
theorem zbd(p:xn)(r:List UInt8):(∀j y,zD j p.known=some y->zD j (yx p r).known=some y)/\(yp p.known->yp (yx p r).known)/\∀i,(zM p i).1<=(zM (yx p r) i).1:=by
 unfold yx
 cases jF r with
 |none=>exact⟨λ_ _ h=>h,λh=>h,λ_=>N0 _⟩
 |some q=>
  obtain⟨k,i,b,x⟩:=q;simp only
  split
  ·have h:=ZZ (p:=p) i x
   exact⟨h.1,h.2.1,λj=>by unfold zM;rw [h.2.2];exact N0 _⟩
  ·split
   ·exact⟨λ_ _ h=>h,λh=>h,λ_=>N0 _⟩
   ·refine⟨λ_ _ h=>h,λh=>h,λj=>?_⟩
    show _<=((zD j (put i _ p.votes)).getD (0,0,[])).1
    rw [yz]
    split
    ·rename_i e;subst e;exact ze1 _ _ _ _
    ·exact N0 _
theorem JD(q:List zy×xn)(r:List UInt8):q.1<+:(jV q r).1/\(∀j y,zD j q.2.known=some y->zD j (jV q r).2.known=some y)/\(yp q.2.known->yp (jV q r).2.known)/\∀i,(zM q.2 i).1<=(zM (jV q r).2 i).1:=by
 unfold jV
 cases r with
 |nil=>exact⟨U0 _,λ_ _ h=>h,λh=>h,λ_=>N0 _⟩
 |cons k d=>
  simp only
  split
  ·exact⟨List.prefix_append _ _,λ_ _ h=>h,λh=>h,λ_=>N0 _⟩
  ·exact⟨U0 _,zbd _ _⟩
theorem ziL(l:List (List UInt8)):∀(m:List (List UInt8)),(RR l).1<+:(RR (l++m)).1/\(∀j y,zD j (RR l).2.known=some y->zD j (RR (l++m)).2.known=some y)/\∀i,(zM (RR l).2 i).1<=(zM (RR (l++m)).2 i).1:=by
 intro m
 induction m generalizing l with
 |nil=>rw [List.append_nil];exact⟨U0 _,λ_ _ h=>h,λ_=>N0 _⟩
 |cons r m ih=>
  have h1:=JD (RR l) r;rw [← zcM] at h1;have h2:=ih (l++ [r]);rw [List.append_assoc] at h2;exact⟨h1.1.trans h2.1,λj y h=>h2.2.1 j y (h1.2.1 j y h),λi=>Nat.le_trans (h1.2.2.2 i) (h2.2.2 i)⟩
theorem Q4(l:List (List UInt8)):yp (RR l).2.known:=by
 suffices h:∀(l:List (List UInt8)) (q:List zy×xn),yp q.2.known->yp (l.foldl jV q).2.known from h l _ (λi x hx=>by simp [x9,zD] at hx)
 intro l
 induction l with
 |nil=>intro q h;exact h
 |cons r l ih=>intro q h;exact ih _ ((JD q r).2.2.1 h)
structure Q5(s:StD)(n:zp)(l:List (List UInt8)):Prop where
 kept:zeT n.store l
 up:n.down=false->n.store.crashed=false/\n.acc=(RR l).1/\n.pax=(RR l).2
 acc:n.acc<+:(RR l).1
 loc:∃vals,xt n s (RR l).2.known vals
def ziM(id:Int)(acc:List zy):Prop:=∀(j:Nat)(m:zy),acc[j]?=some m->m.1=(id,j+1)
structure vE(s:StD)(n:zp)(l:List (List UInt8))(m:zp)(l':List (List UInt8)):Prop where
 inv:Q5 s m l'
 recs:l<+:l'
 acc:n.acc<+:m.acc
 log:n.loc.log<+:m.loc.log
 ids:ziM n.id (RR l).1->ziM n.id (RR l').1
 same:m.id=n.id/\m.version=n.version/\m.bad=n.bad
theorem vE.refl {s:StD}{n:zp}{l:List (List UInt8)}(h:Q5 s n l):vE s n l n l:=⟨h,U0 _,U0 _,U0 _,λh=>h,rfl,rfl,rfl⟩
theorem vE.trans {s:StD}{a b c:zp}{l m k:List (List UInt8)}(h:vE s a l b m)(g:vE s b m c k):vE s a l c k:=
 ⟨g.inv,h.recs.trans g.recs,h.acc.trans g.acc,h.log.trans g.log,(λx=>by have:=g.ids (by rw [h.same.1];exact h.ids x);rwa [h.same.1] at this),g.same.1.trans h.same.1,g.same.2.1.trans h.same.2.1,g.same.2.2.trans h.same.2.2⟩
theorem ziN {l:List (List UInt8)}{k:UInt8}{d:List UInt8}(hk:k≠109):RR (l++ [k::d])=((RR l).1,yx (RR l).2 (k::d)):=by
 rw [zcM];unfold jV;simp only;rw [if_neg (λh=>hk h.1)]
theorem xt.more {n m:zp}{s:StD}{vals:List (List UInt8)}{l:List (List UInt8)}(h:xt n s (RR l).2.known vals)(k:List (List UInt8))(h1:m.applied=n.applied)(h2:m.loc=n.loc)(h3:m.version=n.version)(h4:m.bad=n.bad):xt m s (RR (l++k)).2.known vals:=
 ⟨h.1.trans h1.symm,by rw [h2,h3,h4];exact h.2.1,λj x hj=>(ziL l k).2.1 _ _ (h.2.2 j x hj)⟩
theorem Q5.same {s:StD}{n m:zp}{l:List (List UInt8)}(h:Q5 s n l)(hs:xu n m)(h1:m.applied=n.applied)(h2:m.loc=n.loc):Q5 s m l:=by
 obtain⟨vals,hv⟩:=h.loc;refine⟨by rw [hs.store];exact h.kept,λhd=>?_,by rw [hs.acc];exact h.acc,vals,?_⟩
 ·rw [hs.store,hs.acc,hs.pax];exact h.up (by rw [← hs.down];exact hd)
 ·exact⟨hv.1.trans h1.symm,by rw [h2,hs.version,hs.bad];exact hv.2.1,hv.2.2⟩
theorem VQ {s:StD}{n:zp}{l:List (List UInt8)}(h:Q5 s n l)(hd:n.down=false)(p:xn)(k:UInt8)(d:List UInt8)(hk:k≠109)(hp:p=yx n.pax (k::d)):
 ∃l',vE s n l (yf {n with pax:=p} true (k::d)).1 l'/\((yf {n with pax:=p} true (k::d)).2=0->l'=l++ [k::d] /\(yf {n with pax:=p} true (k::d)).1.down=false)/\((yf {n with pax:=p} true (k::d)).2≠0->(yf {n with pax:=p} true (k::d)).1.down=true):=by
 obtain⟨hc,ha,hx⟩:=h.up hd;obtain⟨vals,hv⟩:=h.loc;have hRR:=ziN (l:=l) (d:=d) hk;unfold yf;simp only
 rcases X7 h.kept (k::d)with⟨h1, -,h3,h4⟩|⟨h1,h2,h3⟩|⟨h1,h2⟩
 ·refine⟨l++ [k::d],⟨⟨h4,λ_=>⟨h3,?_,?_⟩,?_,vals,hv.more _ rfl rfl rfl rfl⟩,List.prefix_append _ _,U0 _,U0 _,(λx=>by rw [hRR];exact x),rfl,rfl,rfl⟩,λ_=>⟨rfl,?_⟩,λh=>absurd h1 h⟩
  ·show n.acc=_;rw [hRR];exact ha
  ·show p=_;rw [hRR,hp,hx]
  ·show n.acc<+:_;rw [hRR];exact h.acc
  ·rw [h1,hd];rfl
 ·have hdn:(n.down||decide ((z6 n.store (k::d)).2=31)||(true && decide ((z6 n.store (k::d)).2≠0)))=true:=by rw [h1];simp
  have hup:∀l'',((n.down||decide ((z6 n.store (k::d)).2=31)||(true && decide ((z6 n.store (k::d)).2≠0)))=false->(z6 n.store (k::d)).1.crashed=false/\n.acc=(RR l'').1/\p=(RR l'').2):=λl'' h=>by rw [hdn] at h;cases h
  rcases h3 with h3|h3
  ·exact⟨l,⟨⟨h3,hup l,h.acc,vals,hv⟩,U0 _,U0 _,U0 _,(λh=>h),rfl,rfl,rfl⟩,λh=>by rw [h1] at h;simp at h,λ_=>hdn⟩
  ·refine⟨l++ [k::d],⟨⟨h3,hup _,?_,vals,hv.more _ rfl rfl rfl rfl⟩,List.prefix_append _ _,U0 _,U0 _,(λx=>by rw [hRR];exact x),rfl,rfl,rfl⟩,λh=>by rw [h1] at h;simp at h,λ_=>hdn⟩
   show n.acc<+:_;rw [hRR];exact h.acc
 ·have hdn:(n.down||decide ((z6 n.store (k::d)).2=31)||(true && decide ((z6 n.store (k::d)).2≠0)))=true:=by rw [h1];simp
  refine⟨l,⟨⟨by show zeT (z6 n.store (k::d)).1 l;rw [h2];exact h.kept,λh=>?_,h.acc,vals,hv⟩,U0 _,U0 _,U0 _,(λh=>h),rfl,rfl,rfl⟩,λh=>by rw [h1] at h;simp at h,λ_=>hdn⟩;have h':(n.down||decide ((z6 n.store (k::d)).2=31)||(true && decide ((z6 n.store (k::d)).2≠0)))=false:=h;rw [hdn] at h';cases h'
theorem zbe {s:StD}{n:zp}{l:List (List UInt8)}(h:Q5 s n l)(i:Int)(b:Nat)(hb:b<18446744073709551616):∃l',vE s n l (zA n i b).1 l'/\((zA n i b).2.2=0->b<=(zM (RR l').2 i).1):=by
 unfold zA
 by_cases hd:n.down=false
 ·rw [if_neg (by rw [hd];simp)]
  by_cases he:(zC n.pax i b).2.2.2≠0
  ·rw [if_pos he];exact⟨l,vE.refl h,λh=>absurd h he⟩
  ·rw [if_neg he]
   obtain⟨h1,h2,h3,h4,h5,h6⟩:=QZ hb (Decidable.not_not.1 he);have hrec:(zC n.pax i b).2.2.1=112::(le4 (i.toNat % 4294967296)++le8 b):=by rw [h2];rfl
   obtain⟨l',k1,k2,k3⟩:=VQ h hd (zC n.pax i b).1 112 (le4 (i.toNat % 4294967296)++le8 b) (by decide) (by rw [← hrec];exact h1.symm);rw [← hrec] at k1 k2 k3
   split
   ·rename_i hq;exact⟨l',k1,λh=>absurd h hq⟩
   ·rename_i hq
    refine⟨l',k1,λ_=>?_⟩;have hq':=k2 (Decidable.not_not.1 hq);have hp:=(k1.inv.up hq'.2).2.2;have hp':(zC n.pax i b).1=(RR l').2:=hp;rw [← hp',h6]
    show b<=((zD i (put i _ n.pax.votes)).getD (0,0,[])).1
    rw [yz,if_pos rfl];exact N0 _
 ·rw [if_pos (by simpa using hd)]
  exact⟨l,vE.refl h,λh=>by simp at h⟩
theorem zbf {s:StD}{n:zp}{l:List (List UInt8)}(h:Q5 s n l)(i:Int)(b:Nat)(x:List UInt8)(hb:b<18446744073709551616):∃l',vE s n l (yE n i b x).1 l':=by
 unfold yE
 by_cases hd:n.down=false
 ·rw [if_neg (by rw [hd];simp)]
  by_cases he:(vy n.pax i b x).2.2≠0
  ·rw [if_pos he];exact⟨l,vE.refl h⟩
  ·rw [if_neg he]
   obtain⟨h1, -, -, -, -, -,h2⟩:=zeW hb (Decidable.not_not.1 he);have hrec:(vy n.pax i b x).2.1=118::(le4 (i.toNat % 4294967296)++(le8 b++x)):=by rw [h2];rfl
   obtain⟨l',k1, -, -⟩:=VQ h hd (vy n.pax i b x).1 118 (le4 (i.toNat % 4294967296)++(le8 b++x)) (by decide) (by rw [← hrec];exact h1.symm);rw [← hrec] at k1;exact⟨l',k1⟩
 ·rw [if_pos (by simpa using hd)]
  exact⟨l,vE.refl h⟩
theorem Qa {s:StD}{n:zp}{l:List (List UInt8)}(h:Q5 s n l)(hd:n.down=false)(k:Nat):vE s n l (jn k n).1 l:=by
 obtain⟨hc,ha,hx⟩:=h.up hd;obtain⟨vals,hv⟩:=h.loc;have hv':xt n s n.pax.known vals:=by rw [hx];exact hv
 obtain⟨hs,more,h1, -⟩:=VP s k n vals hv';rw [hx] at h1;refine⟨⟨by rw [hs.store];exact h.kept,λ_=>by rw [hs.store,hs.acc,hs.pax];exact⟨hc,ha,hx⟩,by rw [hs.acc];exact h.acc,_,h1⟩,U0 _,by rw [hs.acc];exact U0 _,?_,λh=>h,hs.id,hs.version,hs.bad⟩;rw [h1.2.1,hv.2.1,hs.version,hs.bad];exact zbc _ _ _ _ _
theorem Yo {s:StD}{n:zp}{l:List (List UInt8)}(h:Q5 s n l)(i:Int)(x:List UInt8):∃l',vE s n l (ja n i x).1 l':=by
 unfold ja
 by_cases hd:n.down=false
 ·rw [if_neg (by rw [hd];simp)]
  by_cases he:(zS n.pax i x).2.2≠0
  ·rw [if_pos he];exact⟨l,vE.refl h⟩
  ·rw [if_neg he]
   by_cases hr:(zS n.pax i x).2.1=[]
   ·rw [if_pos hr]
    have hsame:(zS n.pax i x).1=n.pax:=zeX (.inr hr);rw [hsame];exact⟨l,Qa h hd _⟩
   ·rw [if_neg hr]
    obtain⟨h1, -, -, -, -, -,h2⟩:=zcI (Decidable.not_not.1 he) hr;have hrec:(zS n.pax i x).2.1=100::(le4 (i.toNat % 4294967296)++x):=by rw [h2];rfl
    obtain⟨l',k1,k2,k3⟩:=VQ h hd (zS n.pax i x).1 100 (le4 (i.toNat % 4294967296)++x) (by decide) (by rw [← hrec];exact h1.symm);rw [← hrec] at k1 k2 k3
    generalize yf {n with pax:=(zS n.pax i x).1} true (zS n.pax i x).2.1=q at*
    by_cases hq:q.2≠0
    ·exact⟨l',by simp only [if_pos hq];exact k1⟩
    ·have hq':=k2 (Decidable.not_not.1 hq)
     exact⟨l',by simp only [if_neg hq];exact k1.trans (Qa k1.inv hq'.2 _)⟩
 ·rw [if_pos (by simpa using hd)]
  exact⟨l,vE.refl h⟩
