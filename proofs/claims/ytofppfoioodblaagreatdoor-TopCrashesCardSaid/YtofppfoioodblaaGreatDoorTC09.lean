/- PARTS OF THE PROOF. -/
import Derived.Test.YtofppfoioodblaaGreatDoorTC08
set_option maxRecDepth 8000
set_option maxHeartbeats 4000000
open Go.Proofs.Tryz
namespace Go.Proofs.YtofppfoioodblaaGreatDoor
section
open Go Go.RowKit Go.Shelf Go.Extern.Stop Go.Stop Go.Extern
attribute [local go_sem] Oper.semAt_some zB zp
theorem zfZ {la lb:List zA}{k:Nat}{x y:zA}(h:la.take k=lb.take k)(hx:la[k]?=some x)(hy:lb[k]?=some y)(he:x=y):la.take (k+1)=lb.take (k+1):=by
 rw [List.take_add_one,List.take_add_one,h,hx,hy,he]
theorem zdD(va vb:Value)(la lb:List zA)(w:World)(ha:Src w va 3 la.length (la.flatMap zg))(hb:Src w vb 3 lb.length (lb.flatMap zg))(hl:la.length<=9223372036854775807)(_hl2:lb.length<=9223372036854775807):
 Calls prog 29 #[va,vb] w λe w'=>e=.returned (.bool (decide (la=lb)))/\Below w.heap.size w w':=by
 obtain⟨aa,ca,rfl⟩:=ha.shape;obtain⟨ab,cb,rfl⟩:=hb.shape
 by_cases hlen:la.length=lb.length
 ·have t0:((la.length:Int) !=(lb.length:Int))=false:=by simp;omega
  rw [hlen] at ha⊢
  go_enter func29,ntmps29
  go_wp2
  go_loopw [5] (λp5 wr=>∃k:Nat,p5=.int .i64 k/\k<=lb.length/\la.take k=lb.take k/\Below w.heap.size w wr) (λp5 _=>lb.length - (intOf p5).toNat)
  case atStart=>exact⟨0,rfl,Nat.zero_le _,rfl,N2 _ _⟩
  case round=>
   obtain⟨k,rfl,hk,ac,ae⟩:=hrel
   by_cases hlt:k<lb.length
   ·obtain⟨x,hx⟩:∃x,la[k]?=some x:=⟨_,N3 (by omega)⟩
    obtain⟨y,hy⟩:∃y,lb[k]?=some y:=⟨_,N3 hlt⟩
    rcases(ha.below ae).2 with⟨h,h'⟩|⟨ma,oa,ca',h,_,hra⟩
    ·omega
    cases h
    rcases(hb.below ae).2 with⟨h,h'⟩|⟨mb,ob,cb',h,_,hrb⟩
    ·omega
    cases h
    have ai:∀j,j<3->wr.cell? ⟨ma,oa+(k*3+j),none⟩=(zg x)[j]?:=λj hj=>by
     have h1:=x7 la k x hx j hj
     cases hu:(zg x)[j]? with
     |none=>simp [zg] at hu;omega
     |some u=>exact hra _ u (h1.trans hu)
    have ah:∀j,j<3->wr.cell? ⟨mb,ob+(k*3+j),none⟩=(zg y)[j]?:=λj hj=>by
     have h1:=x7 lb k y hy j hj
     cases hu:(zg y)[j]? with
     |none=>simp [zg] at hu;omega
     |some u=>exact hrb _ u (h1.trans hu)
    have a0:wr.cell? ⟨ma,oa+k*3,none⟩=(zg x)[0]?:=ai 0 (by omega);have a1:wr.cell? ⟨ma,oa+k*3+1,none⟩=(zg x)[1]?:=ai 1 (by omega);have a2:wr.cell? ⟨ma,oa+k*3+2,none⟩=(zg x)[2]?:=ai 2 (by omega);have b0:wr.cell? ⟨mb,ob+k*3,none⟩=(zg y)[0]?:=ah 0 (by omega);have b1:wr.cell? ⟨mb,ob+k*3+1,none⟩=(zg y)[1]?:=ah 1 (by omega);have b2:wr.cell? ⟨mb,ob+k*3+2,none⟩=(zg y)[2]?:=ah 2 (by omega);have hq:=zh2 x y;obtain⟨q,ad⟩:∃q,decide (x≠y)=q:=⟨_,rfl⟩;rw [ad] at hq;replace ac:=hid ac;obtain⟨x0,ak⟩:∃x',x'=x:=⟨_,rfl⟩;obtain⟨y0,aj⟩:∃y',y'=y:=⟨_,rfl⟩;rw [← ak] at hx ad;rw [← aj] at hy ad;replace ad:=hid ad;replace ak:=hid ak;replace aj:=hid aj;obtain⟨⟨i,c⟩,d⟩:=x;obtain⟨⟨i',c'⟩,d'⟩:=y;simp only [zg,List.getElem?_cons_zero,List.getElem?_cons_succ] at a0 a1 a2 b0 b1 b2;unfold y7 at hq;simp only at hq;clear ai ah hra hrb;replace hx:=hid hx;replace hy:=hid hy;have am:(k:Int)<(lb.length:Int):=by omega
    have an:(0:Int)<=(k:Int):=by omega
    go_wp2
    go_quiet (fail)
    cases q
    ·have af:x0=y0:=by have:=ad.out;simpa using this
     have ag:=hid af;clear af;go_wp2
     go_roundw
     case rel=>exact⟨k+1,by go_num,by omega,zfZ ac.out hx.out hy.out ag.out,below_drewN ae _⟩
     case measure=>simp [intOf];omega
    have ag:x0≠y0:=by have:=ad.out;simpa using this
    have hd:decide (la=lb)=false:=by
     simp only [decide_eq_false_iff_not];intro h;have h1:=hx.out;rw [h,hy.out] at h1;exact ag (Option.some.inj h1).symm
    replace hd:=hid hd;clear ag;go_wp2;go_ret
    exact⟨by rw [hd.out];rfl,below_drewN ae _⟩
   obtain rfl:k=lb.length:=by omega
   have hd:decide (la=lb)=true:=by
    rw [← hlen,List.take_length,hlen,List.take_length] at ac
    simpa using ac
   clear ha hb;replace ac:=hid ac;replace hd:=hid hd;replace hlen:=hid hlen;go_wp2;go_ret
   exact⟨by rw [hd.out];rfl,ae⟩
 have t0:((la.length:Int) !=(lb.length:Int))=true:=by simp;omega
 have al:la≠lb:=λh=>hlen (by rw [h])
 have hd:decide (la=lb)=false:=by simpa using al
 rw [hd];clear ha hb hlen al hd
 go_enter func29,ntmps29
 go_wp2;go_ret
 exact⟨rfl,N2 _ _⟩
end
section
open Go Go.RowKit
structure VO(f:yW)(k:Nat):Prop where
 ok:xh f.book
 few:Zc f.book<=64*k
 eras:f.eras.length<=k+1
 low:0<=f.count
 high:f.count<=k
theorem zh3(v:Int):VO (ZB v) 0:=⟨zfQ,by simp [ZB,Zc,qe],by simp [ZB],by simp [ZB],by simp [ZB]⟩
theorem VO.mono {f:yW}{k n:Nat}(h:VO f k)(hk:k<=n):VO f n:=⟨h.ok,by have:=h.few;omega,by have:=h.eras;omega,h.low,by have:=h.high;omega⟩
theorem VO.begin {f:yW}{k:Nat}(h:VO f k)(v:Int)(sw:Bool)(he:f.eras.length<=k):VO (xC f v sw) k:=
 ⟨h.ok,h.few,by simp [xC];exact he,h.low,h.high⟩
theorem zdE {f:yW}{k:Nat}(h:VO f k)(e:jH):VO (j4 f e).1 (k+1):=by
 have h1:VO {f with count:=f.count+1} (k+1):=⟨h.ok,by have:=h.few;show Zc f.book<=_;omega,by have:=h.eras;show f.eras.length<=_;omega,by have:=h.low;show 0<=f.count+1;omega,by have:=h.high;show f.count+1<=_;omega⟩;have h2:({f with count:=f.count+1} :yW).eras.length<=k+1:=h.eras;unfold j4
 split
 ·exact h.mono (by omega)
 rename_i hr
 have aa:Js e=true:=by simpa using hr
 split
 ·exact h1
 split
 ·have hd:=qK h.ok e.msgs
  have hm:=Yh aa;exact⟨hd.1,by have:=hd.2.1;have:=h.few;show Zc (zY f.book e.msgs).1<=_;omega,h1.eras,h1.low,h1.high⟩
 split
 ·split
  ·exact h1
  exact h1.begin _ _ h2
 split
 ·exact h1
 exact h1.begin _ _ h2
end
open Go
def qG:List Nat->List zA->Prop
 |_,[]=>True
 |tk,x::l=>(0<=x.1.1/\x.1.1<=15/\x.1.2=(tk[x.1.1.toNat]?.getD 0)+1/\x.1.2<=4294967294)/\qG (tk.set x.1.1.toNat x.1.2) l
theorem qw {m:zA}(h:zx m=true):0<=m.1.1/\m.1.1<=15/\m.2.length<=1000/\1<=m.1.2/\m.1.2<=4294967294:=by
 simp [zx] at h
 omega
theorem qG.append:∀ {tk:List Nat} {a b:List zA},qG tk a->qG (qd tk a) b->qG tk (a++b)
 |_,[],_,_,h2=>h2
 |_,_::a,_,h,h2=>⟨h.1,qG.append (a:=a) h.2 h2⟩
theorem zbS(tk:List Nat)(a b:List zA):qd tk (a++b)=qd (qd tk a) b:=by simp [qd,List.foldl_append]
theorem Xn:∀(n:Nat)(ws:List (MId×zA)) (x:zA) (tk:List Nat),tk.length=16->zde ws->zx x=true->x.1.2=(tk[x.1.1.toNat]?.getD 0)+1->qG tk (zX n ws x).2
 |0,ws,x,tk,ht,hw,hx,h=>by
  have:=qw hx;exact⟨⟨this.1,this.2.1,h,this.2.2.2.2⟩,trivial⟩
 |n+1,ws,x,tk,ht,hw,hx,h=>by
  have hp:=qw hx;unfold zX
  cases hl:zE (x.1.1,(x.1.2+1)% 4294967296) (del x.1 ws)with
  |none=>exact⟨⟨hp.1,hp.2.1,h,hp.2.2.2.2⟩,trivial⟩
  |some y=>
   have hy:=(hw.del x.1) _ (xD hl);have hy1:y.1=(x.1.1,(x.1.2+1)% 4294967296):=hy.1;refine⟨⟨hp.1,hp.2.1,h,hp.2.2.2.2⟩,?_⟩;refine Xn n (del x.1 ws) y _ (by simpa using ht) (hw.del _) hy.2 ?_;rw [hy1];simp only;rw [List.getElem?_set_self (by omega)];simp only [Option.getD_some];omega
theorem zbT {b:vL}(hok:xh b)(m:zA):qG b.tk (xL b m).2.1/\(xL b m).1.tk=qd b.tk (xL b m).2.1:=by
 unfold xL
 split
 ·exact⟨trivial,rfl⟩
 rename_i hr
 have ac:zx m=true:=by simpa using hr
 have hp:=qw ac
 split
 ·split<;>exact⟨trivial,rfl⟩
 rename_i hn
 have aa:m.1.2=Jk b m.1.1:=by simpa using hn
 refine⟨Xn _ _ _ _ hok.sixteen hok.keys ac ?_,rfl⟩;unfold Jk at aa;rw [if_pos (by simp [vM];omega)] at aa
 have hm:b.tk[m.1.1.toNat]?.getD 0<=4294967294:=by
  cases h:b.tk[m.1.1.toNat]? with
  |none=>simp
  |some n=>exact hok.most n (List.mem_of_getElem? h)
 omega
theorem ZM {b:vL}(hok:xh b):∀(l:List zA),qG b.tk (zY b l).2/\(zY b l).1.tk=qd b.tk (zY b l).2
 | []=>⟨trivial,rfl⟩
 |m::l=>by
  have h1:=zbT hok m;have h2:=ZM (zhQ hok m) l;simp only [zY];refine⟨h1.1.append (by rw [← h1.2];exact h2.1),?_⟩;rw [h2.2,h1.2,zbS]
theorem Yl {f:yW}(hok:xh f.book)(e:jH):qG f.book.tk (j4 f e).2.1/\(j4 f e).1.book.tk=qd f.book.tk (j4 f e).2.1/\(j4 f e).1.book.log=f.book.log++(j4 f e).2.1/\(e.kind≠1->(j4 f e).2.1=[]):=by
 unfold j4
 split
 ·exact⟨trivial,rfl,by simp,λ_=>rfl⟩
 split
 ·exact⟨trivial,rfl,by simp,λ_=>rfl⟩
 split
 ·rename_i hk
  have h1:=ZM hok e.msgs;exact⟨h1.1,h1.2,(qK hok e.msgs).2.2,λh=>absurd hk h⟩
 split
 all_goals
  split
  ·exact⟨trivial,rfl,by simp,λ_=>rfl⟩
  exact⟨trivial,rfl,by simp [xC],λ_=>rfl⟩
theorem YW {i:Int}(h0:0<=i)(h:i<=255):((UInt8.ofNat (i % 256).toNat).toNat:Int)=i:=by
 rw [UInt8.toNat_ofNat'];omega
theorem v8(m:zA):(jr m).length=9+m.2.length:=by
 unfold jr;simp [Zg];omega
theorem zf0 {m:zA}(h:zx m=true)(rest:List UInt8):vY (jr m++rest)=(m,9+m.2.length):=by
 obtain⟨⟨i,c⟩,d⟩:=m;have hp:=qw h;simp only at hp;have hl:=v8 ((i,c),d);simp only at hl;have h1:(jr ((i,c),d)++rest).head?.getD 0=UInt8.ofNat (i % 256).toNat:=rfl;have h2:((jr ((i,c),d)++rest).drop 1).take 4=le4 c:=rfl;have h3:((jr ((i,c),d)++rest).drop 5).take 4=le4 d.length:=rfl;have h4:(jr ((i,c),d)++rest).drop 9=d++rest:=rfl;have hb:=YW hp.1 (by omega);have hc:c % 4294967296=c:=by omega
 have hd:d.length % 4294967296=d.length:=by omega
 have aa:(d++rest).take d.length=d:=by rw [List.take_left'];rfl
 unfold vY;rw [h1,h2,h3,h4,vl,vl,hc,hd,hb,aa,if_neg (by rw [N1];omega),if_neg (by rw [N1];omega),if_neg (by rw [h];simp)]
theorem Vu:∀(l:List zA),l.all zx=true->yX l.length (l.flatMap jr)=some l
 | [],_=>rfl
 |m::l,h=>by
  simp only [List.all_cons,Bool.and_eq_true] at h;have hf:=zf0 h.1 (l.flatMap jr);have hl:=v8 m;have hd:(jr m++l.flatMap jr).drop (9+m.2.length)=l.flatMap jr:=by rw [List.drop_left'];omega
  show yX (l.length+1) (jr m++l.flatMap jr)=_
  unfold yX;rw [hf];simp only;rw [if_neg (by omega),hd,Vu l h.2];rfl
theorem zdF {l:List zA}(h:(j0 l).2=0):l.length<=64/\l.all zx=true/\j0 l=([UInt8.ofNat (l.length % 256)] ++l.flatMap jr,0):=by
 unfold j0 at h⊢
 split at h
 ·simp at h
 rename_i h1
 rw [if_neg h1]
 split at h
 ·rename_i h2
  rw [if_pos h2];exact⟨by omega,h2,rfl⟩
 simp at h
theorem Xo {l:List zA}(h:(j0 l).2=0):jR (j0 l).1=(l,0):=by
 obtain⟨h1,h2,h3⟩:=zdF h;rw [h3];unfold jR;have hb:(UInt8.ofNat (l.length % 256)).toNat=l.length:=by rw [UInt8.toNat_ofNat'];omega
 simp only [List.cons_append,List.nil_append];rw [hb,if_neg (by omega),Vu l h2]
theorem VU {m:zA}(h:zx m=true):j0 [m]=([1] ++jr m,0):=by
 unfold j0;rw [if_neg (by simp),if_pos (by simp [h])];simp
theorem Xp {e:jH}(h:(jC e).2=0):qf e=true/\(j0 e.msgs).2=0/\(jC e).1=[UInt8.ofNat (e.kind % 256).toNat] ++le4 e.epoch++ [UInt8.ofNat (e.ver % 256).toNat] ++(j0 e.msgs).1/\(jC e).1.length<=4000:=by
 unfold jC at h⊢
 split at h
 ·simp at h
 rename_i h1
 rw [if_neg h1]
 split at h
 ·simp at h
 rename_i h2
 rw [if_neg h2]
 split at h
 ·simp at h
 rename_i h3
 rw [if_neg h3];exact⟨by simpa using h1,by simpa using h2,rfl,Nat.le_of_not_lt h3⟩
theorem zbU {e:jH}(h:qf e=true):(1<=e.kind/\e.kind<=3)/\0<=e.ver/\e.ver<=255:=by
 unfold qf at h
 split at h
 ·simp at h;omega
 split at h
 ·simp at h;omega
 split at h
 ·simp at h;omega
 cases h
theorem zaJ {e:jH}(h:(jC e).2=0)(hep:e.epoch<4294967296):jz (jC e).1=(e,0):=by
 obtain⟨h1,h2,h3,h4⟩:=Xp h;obtain⟨hk,hv⟩:=zbU h1;obtain⟨q1,q2,q3⟩:=zdF h2;have hu:=Xo h2;obtain⟨k,ep,v,ms⟩:=e;simp only at hk hv hep h2 q1 q2 q3 hu;have a1:(jC ⟨k,ep,v,ms⟩).1.head?.getD 0=UInt8.ofNat (k % 256).toNat:=by rw [h3];rfl
 have a2:((jC ⟨k,ep,v,ms⟩).1.drop 1).take 4=le4 ep:=by rw [h3];rfl
 have a3:((jC ⟨k,ep,v,ms⟩).1.drop 5).head?.getD 0=UInt8.ofNat (v % 256).toNat:=by rw [h3];rfl
 have a4:(jC ⟨k,ep,v,ms⟩).1.drop 6=(j0 ms).1:=by rw [h3];rfl
 have a5:6<=(jC ⟨k,ep,v,ms⟩).1.length:=by rw [h3];simp [Zg];omega
 have b1:=YW (i:=k) (by omega) (by omega);have b2:=YW (i:=v) (by omega) (by omega);have ac:ep % 4294967296=ep:=by omega
 unfold jz;rw [if_neg (by omega),a4,hu,if_neg (by simp),a1,a2,a3,vl,b1,b2,ac];have aa:jC {kind:=k,epoch:=ep,ver:=v,msgs:=(ms,(0:Int)).1} =((jC {kind:=k,epoch:=ep,ver:=v,msgs:=ms}).1,0):=Prod.ext rfl h;rw [if_pos aa]
theorem zh4 {f:yW}{e:jH}(h:(j4 f e).2.2.2≠0):j4 f e=(f,[],false,140):=by
 unfold j4 at h⊢
 split
 ·rfl
 rename_i h1
 rw [if_neg h1] at h
 exfalso
 revert h
 repeat' split
 all_goals simp
theorem Xq(L:zP)(e:jH)(fails:Bool):(yk L e fails).1.fold=(j4 L.fold e).1:=by
 unfold yk
 split
 ·rfl
 unfold yK zjz yr qL
 repeat' split
 all_goals rfl
theorem qk(L:zP)(R:yW×List zA×Bool×Int)(fails:Bool):(zjz L R fails).held=L.held/\(zjz L R fails).log=L.log:=by
 unfold zjz yr
 split<;>exact⟨rfl,rfl⟩
theorem zbV(L:zP):(yK L).1.log++(yK L).1.held=L.log++L.held:=by
 unfold yK
 split<;>simp
theorem zbW(L:zP):(yK L).2.length<=L.held.length:=by
 unfold yK
 split<;>simp
structure xm(L:zP)(k:Nat):Prop where
 fold:VO L.fold k
 all:L.log++L.held=L.fold.book.log
theorem xm.mono {L:zP}{k n:Nat}(h:xm L k)(hk:k<=n):xm L n:=⟨h.fold.mono hk,h.all⟩
theorem zkV(v:Int)(s:StD):xm (zeT v s) 0:=⟨zh3 v,rfl⟩
theorem xm.len {L:zP}{k:Nat}(h:xm L k):L.log.length+L.held.length<=64*k:=by
 have h1:=congrArg List.length h.all;rw [N1] at h1;have h2:=h.fold.few;unfold Zc at h2;omega
theorem zaK {L:zP}{k:Nat}(h:xm L k)(e:jH)(fails:Bool):xm (yk L e fails).1 (k+1):=by
 refine⟨by rw [Xq];exact zdE h.fold e,?_⟩;rw [Xq,(Yl h.fold.ok e).2.2.1];unfold yk
 split
 ·rename_i hr
  have:=zh4 hr;rw [this];simp only [List.append_nil];exact h.all
 rw [zbV]
 unfold qL;simp only [(qk L _ fails).1,(qk L _ fails).2];rw [← List.append_assoc,h.all]
theorem zbX {f:yW}{k:Nat}(h:VO f k)(e:jH):(j4 f e).2.1.length<=64*(k+1):=by
 have h1:=(zdE h e).few;have h2:=(Yl h.ok e).2.2.1;unfold Zc at h1;rw [h2,N1] at h1;omega
def jY(q:List zA×xH)(r:List UInt8):List zA×xH:=
 match r with
 | []=>q
 |k::d=>if k=109/\(jR d).2=0/\(jR d).1.length=1 then(q.1++(jR d).1,q.2)else(q.1,yL q.2 r)
def RR(l:List (List UInt8)):List zA×xH:=l.foldl jY ([],xl)
theorem zdG(l:List (List UInt8))(r:List UInt8):RR (l++ [r])=jY (RR l) r:=by simp [RR,List.foldl_append]
theorem zh5(n:zr)(r:List UInt8):yo n r={n with acc:=(jY (n.acc,n.pax) r).1,pax:=(jY (n.acc,n.pax) r).2} :=by
 unfold yo jY
 cases r with
 |nil=>rfl
 |cons k d=>simp only;split<;>rfl
theorem Xr:∀(l:List (List UInt8)) (n:zr),l.foldl yo n={n with acc:=(l.foldl jY (n.acc,n.pax)).1,pax:=(l.foldl jY (n.acc,n.pax)).2}
 | [],n=>rfl
 |r::l,n=>by
  rw [List.foldl_cons,Xr l,zh5];simp only [List.foldl_cons]
def zkW(L:zP)(e:jH):Int:=
 if e.kind=2 then e.ver else if e.kind=3 then(if 1<L.fold.eras.length then((L.fold.eras[L.fold.eras.length - 2]?).getD (0,0,0)).2.1 else 0)else 0
def qH(bad:List Int)(L:zP)(x:List UInt8):zP:=if(jz x).2≠0 then L else(yk L (jz x).1 (bad.contains (zkW L (jz x).1))).1
def zbY(v:Int)(bad:List Int)(s:StD)(vals:List (List UInt8)):zP:=vals.foldl (qH bad) (zeT v s)
theorem QX(v:Int)(bad:List Int)(s:StD)(vals:List (List UInt8))(x:List UInt8):zbY v bad s (vals++ [x])=qH bad (zbY v bad s vals) x:=by simp [zbY,List.foldl_append]
theorem zbZ(L:zP):L.log<+:(yK L).1.log:=by
 unfold yK
 split
 ·exact U0 _
 exact List.prefix_append _ _
theorem zf1(L:zP)(e:jH)(b:Bool):L.log<+:(yk L e b).1.log:=by
 unfold yk
 split
 ·exact U0 _
 have h:=zbZ (qL (zjz L (j4 L.fold e) b) (j4 L.fold e).2.1)
 have h2:(qL (zjz L (j4 L.fold e) b) (j4 L.fold e).2.1).log=L.log:=(qk L _ b).2;rw [h2] at h;exact h
theorem zdH(bad:List Int)(L:zP)(x:List UInt8):L.log<+:(qH bad L x).log:=by
 unfold qH
 split
 ·exact U0 _
 exact zf1 _ _ _
theorem zb0(v:Int)(bad:List Int)(s:StD)(a b:List (List UInt8)):(zbY v bad s a).log<+:(zbY v bad s (a++b)).log:=by
 induction b generalizing a with
 |nil=>rw [List.append_nil];exact U0 _
 |cons x b ih=>
  have h1:=zdH bad (zbY v bad s a) x;rw [← QX] at h1;have h2:=ih (a++ [x]);rw [List.append_assoc] at h2;exact h1.trans h2
def xP(n:zr)(s:StD)(known:List (Int×List UInt8))(vals:List (List UInt8)):Prop:=
 vals.length=n.applied/\n.loc=zbY n.version n.bad s vals/\∀(j:Nat)(x:List UInt8),vals[j]?=some x->zE ((j:Int)+1) known=some x
structure xQ(n m:zr):Prop where
 id:m.id=n.id
 version:m.version=n.version
 bad:m.bad=n.bad
 store:m.store=n.store
 pax:m.pax=n.pax
 acc:m.acc=n.acc
 down:m.down=n.down
theorem xQ.refl(n:zr):xQ n n:=⟨rfl,rfl,rfl,rfl,rfl,rfl,rfl⟩
theorem xQ.trans {a b c:zr}(h:xQ a b)(k:xQ b c):xQ a c:=⟨k.id.trans h.id,k.version.trans h.version,k.bad.trans h.bad,k.store.trans h.store,k.pax.trans h.pax,k.acc.trans h.acc,k.down.trans h.down⟩
theorem vm:∀(k:Nat)(n:zr),xQ n (jE k n)/\(jE k n).loc=n.loc/\(jE k n).applied=n.applied
 |0,n=>⟨xQ.refl n,rfl,rfl⟩
 |k+1,n=>by
  unfold jE
  split
  ·exact⟨xQ.refl n,rfl,rfl⟩
  rename_i m _
  split
  ·have h:=vm k {n with pool:=(zdB n.pool m).1,offered:=n.offered+1}
   exact⟨⟨h.1.id,h.1.version,h.1.bad,h.1.store,h.1.pax,h.1.acc,h.1.down⟩,h.2.1,h.2.2⟩
  exact⟨⟨rfl,rfl,rfl,rfl,rfl,rfl,rfl⟩,rfl,rfl⟩
theorem YX(n:zr)(e:jH):xQ n (v7 n e).1/\(v7 n e).1.loc=(yk n.loc e (n.bad.contains (zkW n.loc e))).1/\(v7 n e).1.applied=n.applied:=by
 unfold v7;simp only;have h:=vm (n.acc.length+1) {n with loc:=(yk n.loc e (n.bad.contains (qi n e))).1,wanted:=if vC (yk n.loc e (n.bad.contains (qi n e))).1.fold.eras=vC n.loc.fold.eras then n.wanted else 0,pool:=JH (JH n.pool (yk n.loc e (n.bad.contains (qi n e))).2.1) (yk n.loc e (n.bad.contains (qi n e))).1.held};exact⟨⟨h.1.id,h.1.version,h.1.bad,h.1.store,h.1.pax,h.1.acc,h.1.down⟩,h.2.1,h.2.2⟩
theorem Xs(s:StD):∀(k:Nat)(n:zr)(vals:List (List UInt8)),xP n s n.pax.known vals->xQ n (jp k n).1/\∃more,xP (jp k n).1 s n.pax.known (vals++more)/\(zE (((vals++more).length:Int)+1) n.pax.known=none∨more.length=k)
 |0,n,vals,h=>⟨xQ.refl n,[],by simpa [jp] using h,.inr rfl⟩
 |k+1,n,vals,h=>by
  unfold jp
  cases hl:zE ((n.applied:Int)+1) n.pax.known with
  |none=>exact⟨xQ.refl n,[],by simpa using h,.inl (by simp only [List.append_nil];rw [h.1];exact hl)⟩
  |some x=>
   simp only
   have step:∀m:zr,xQ n m->m.loc=qH n.bad n.loc x->m.applied=n.applied+1->xP m s m.pax.known (vals++ [x]):=λm hs hloc happ=>by
    refine⟨by rw [N1,U2,happ,h.1],?_,λj y hj=>?_⟩
    ·rw [hs.version,hs.bad,QX,← h.2.1];exact hloc
    rw [hs.pax]
    rcases Nat.lt_or_ge j vals.length with hlt|hge
    ·rw [U8 hlt] at hj;exact h.2.2 j y hj
    rw [U6 hge] at hj
    have:j=vals.length:=by
     have:=(N6.1 hj).1;simp at this;omega
    subst this;simp at hj;subst hj
    rw [h.1];exact hl
   have go:∀m:zr,xQ n m->xP m s m.pax.known (vals++ [x])->xQ n (jp k m).1/\∃more,xP (jp k m).1 s n.pax.known (vals++more)/\(zE (((vals++more).length:Int)+1) n.pax.known=none∨more.length=k+1):=λm hs ha=>by
    obtain⟨h1,more,h2,h3⟩:=Xs s k m (vals++ [x]) ha;rw [hs.pax] at h2 h3;refine⟨hs.trans h1,[x] ++more,by rw [← List.append_assoc];exact h2,?_⟩;rw [← List.append_assoc]
    rcases h3 with h3|h3
    ·exact .inl h3
    exact .inr (by simp;omega)
   split
   ·rename_i hd
    refine go _ ⟨rfl,rfl,rfl,rfl,rfl,rfl,rfl⟩ (step _ ⟨rfl,rfl,rfl,rfl,rfl,rfl,rfl⟩ ?_ rfl);unfold qH;rw [if_pos hd]
   rename_i hd
   have he:=YX {n with applied:=n.applied+1} (jz x).1;have hs:xQ n (v7 {n with applied:=n.applied+1} (jz x).1).1:=⟨he.1.id,he.1.version,he.1.bad,he.1.store,he.1.pax,he.1.acc,he.1.down⟩;refine go _ hs (step _ hs ?_ he.2.2);unfold qH;rw [if_neg hd];exact he.2.1
def yz(known:List (Int×List UInt8)):Prop:=∀i x,zE i known=some x->1<=i/\i<=10000
theorem JJ {p:xH}(i:Int)(x:List UInt8):(∀j y,zE j p.known=some y->zE j (zV p i x).1.known=some y)/\(yz p.known->yz (zV p i x).1.known)/\(zV p i x).1.votes=p.votes:=by
 unfold zV
 by_cases h1:zR i=false∨4000<x.length
 ·rw [if_pos h1];exact⟨λ_ _ h=>h,λh=>h,rfl⟩
 rw [if_neg h1]
 have hi:zR i=true:=by
  cases hi:zR i
  ·exact absurd (.inl hi) h1
  rfl
 cases hl:zE i p.known with
 |some y=>simp only;split<;>exact⟨λ_ _ h=>h,λh=>h,rfl⟩
 |none=>
  refine⟨λj y h=>?_,λh j y hj=>?_,rfl⟩
  ·show zE j (put i x p.known)=some y
   rw [yE]
   split
   ·rename_i e;subst e;rw [hl] at h;cases h
   exact h
  have aa:zE j (put i x p.known)=some y:=hj
  rw [yE] at aa
  split at aa
  ·rename_i e;subst e;exact qN hi
  exact h j y aa
theorem zf2(kind:UInt8)(v:jw)(b:Nat)(x:List UInt8):v.1<=(qh kind v b x).1:=by
 unfold qh
 split<;>exact Nat.le_max_left _ _
theorem zb1(p:xH)(r:List UInt8):(∀j y,zE j p.known=some y->zE j (yL p r).known=some y)/\(yz p.known->yz (yL p r).known)/\∀i,(zO p i).1<=(zO (yL p r) i).1:=by
 unfold yL
 cases jL r with
 |none=>exact⟨λ_ _ h=>h,λh=>h,λ_=>N0 _⟩
 |some q=>
  obtain⟨k,i,b,x⟩:=q;simp only
  split
  ·have h:=JJ (p:=p) i x
   exact⟨h.1,h.2.1,λj=>by unfold zO;rw [h.2.2];exact N0 _⟩
  split
  ·exact⟨λ_ _ h=>h,λh=>h,λ_=>N0 _⟩
  refine⟨λ_ _ h=>h,λh=>h,λj=>?_⟩
  show _<=((zE j (put i _ p.votes)).getD (0,0,[])).1
  rw [yE]
  split
  ·rename_i e;subst e;exact zf2 _ _ _ _
  exact N0 _
theorem Ym(q:List zA×xH)(r:List UInt8):q.1<+:(jY q r).1/\(∀j y,zE j q.2.known=some y->zE j (jY q r).2.known=some y)/\(yz q.2.known->yz (jY q r).2.known)/\∀i,(zO q.2 i).1<=(zO (jY q r).2 i).1:=by
 unfold jY
 cases r with
 |nil=>exact⟨U0 _,λ_ _ h=>h,λh=>h,λ_=>N0 _⟩
 |cons k d=>
  simp only
  split
  ·exact⟨List.prefix_append _ _,λ_ _ h=>h,λh=>h,λ_=>N0 _⟩
  exact⟨U0 _,zb1 _ _⟩
theorem zj4(l:List (List UInt8)):∀(m:List (List UInt8)),(RR l).1<+:(RR (l++m)).1/\(∀j y,zE j (RR l).2.known=some y->zE j (RR (l++m)).2.known=some y)/\∀i,(zO (RR l).2 i).1<=(zO (RR (l++m)).2 i).1:=by
 intro m
 induction m generalizing l with
 |nil=>rw [List.append_nil];exact⟨U0 _,λ_ _ h=>h,λ_=>N0 _⟩
 |cons r m ih=>
  have h1:=Ym (RR l) r;rw [← zdG] at h1;have h2:=ih (l++ [r]);rw [List.append_assoc] at h2;exact⟨h1.1.trans h2.1,λj y h=>h2.2.1 j y (h1.2.1 j y h),λi=>Nat.le_trans (h1.2.2.2 i) (h2.2.2 i)⟩
theorem zaL(l:List (List UInt8)):yz (RR l).2.known:=by
 suffices h:∀(l:List (List UInt8)) (q:List zA×xH),yz q.2.known->yz (l.foldl jY q).2.known from h l _ (λi x hx=>by simp [xl,zE] at hx)
 intro l
 induction l with
 |nil=>intro q h;exact h
 |cons r l ih=>intro q h;exact ih _ ((Ym q r).2.2.1 h)
structure zaM(s:StD)(n:zr)(l:List (List UInt8)):Prop where
 kept:zbQ n.store l
 up:n.down=false->n.store.crashed=false/\n.acc=(RR l).1/\n.pax=(RR l).2
 acc:n.acc<+:(RR l).1
 loc:∃vals,xP n s (RR l).2.known vals
def zj5(id:Int)(acc:List zA):Prop:=∀(j:Nat)(m:zA),acc[j]?=some m->m.1=(id,j+1)
structure vW(s:StD)(n:zr)(l:List (List UInt8))(m:zr)(l':List (List UInt8)):Prop where
 inv:zaM s m l'
 recs:l<+:l'
 acc:n.acc<+:m.acc
 log:n.loc.log<+:m.loc.log
 ids:zj5 n.id (RR l).1->zj5 n.id (RR l').1
 same:m.id=n.id/\m.version=n.version/\m.bad=n.bad
theorem vW.refl {s:StD}{n:zr}{l:List (List UInt8)}(h:zaM s n l):vW s n l n l:=⟨h,U0 _,U0 _,U0 _,λh=>h,rfl,rfl,rfl⟩
theorem vW.trans {s:StD}{a b c:zr}{l m k:List (List UInt8)}(h:vW s a l b m)(g:vW s b m c k):vW s a l c k:=
 ⟨g.inv,h.recs.trans g.recs,h.acc.trans g.acc,h.log.trans g.log,(λx=>by have:=g.ids (by rw [h.same.1];exact h.ids x);rwa [h.same.1] at this),g.same.1.trans h.same.1,g.same.2.1.trans h.same.2.1,g.same.2.2.trans h.same.2.2⟩
theorem zj6 {l:List (List UInt8)}{k:UInt8}{d:List UInt8}(hk:k≠109):RR (l++ [k::d])=((RR l).1,yL (RR l).2 (k::d)):=by
 rw [zdG];unfold jY;simp only;rw [if_neg (λh=>hk h.1)]
theorem xP.more {n m:zr}{s:StD}{vals:List (List UInt8)}{l:List (List UInt8)}(h:xP n s (RR l).2.known vals)(k:List (List UInt8))(h1:m.applied=n.applied)(h2:m.loc=n.loc)(h3:m.version=n.version)(h4:m.bad=n.bad):xP m s (RR (l++k)).2.known vals:=
 ⟨h.1.trans h1.symm,by rw [h2,h3,h4];exact h.2.1,λj x hj=>(zj4 l k).2.1 _ _ (h.2.2 j x hj)⟩
theorem zaM.same {s:StD}{n m:zr}{l:List (List UInt8)}(h:zaM s n l)(hs:xQ n m)(h1:m.applied=n.applied)(h2:m.loc=n.loc):zaM s m l:=by
 obtain⟨vals,hv⟩:=h.loc;refine⟨by rw [hs.store];exact h.kept,λhd=>?_,by rw [hs.acc];exact h.acc,vals,?_⟩
 ·rw [hs.store,hs.acc,hs.pax];exact h.up (by rw [← hs.down];exact hd)
 exact⟨hv.1.trans h1.symm,by rw [h2,hs.version,hs.bad];exact hv.2.1,hv.2.2⟩
theorem Xt {s:StD}{n:zr}{l:List (List UInt8)}(h:zaM s n l)(hd:n.down=false)(p:xH)(k:UInt8)(d:List UInt8)(hk:k≠109)(hp:p=yL n.pax (k::d)):
 ∃l',vW s n l (j7 {n with pax:=p} true (k::d)).1 l'/\((j7 {n with pax:=p} true (k::d)).2=0->l'=l++ [k::d] /\(j7 {n with pax:=p} true (k::d)).1.down=false)/\((j7 {n with pax:=p} true (k::d)).2≠0->(j7 {n with pax:=p} true (k::d)).1.down=true):=by
 obtain⟨hc,ha,hx⟩:=h.up hd;obtain⟨vals,hv⟩:=h.loc;have aa:=zj6 (l:=l) (d:=d) hk;unfold j7;simp only
 rcases Z5 h.kept (k::d)with⟨h1, -,h3,h4⟩|⟨h1,h2,h3⟩|⟨h1,h2⟩
 ·refine⟨l++ [k::d],⟨⟨h4,λ_=>⟨h3,?_,?_⟩,?_,vals,hv.more _ rfl rfl rfl rfl⟩,List.prefix_append _ _,U0 _,U0 _,(λx=>by rw [aa];exact x),rfl,rfl,rfl⟩,λ_=>⟨rfl,?_⟩,λh=>absurd h1 h⟩
  ·show n.acc=_;rw [aa];exact ha
  ·show p=_;rw [aa,hp,hx]
  ·show n.acc<+:_;rw [aa];exact h.acc
  rw [h1,hd];rfl
 ·have ac:(n.down||decide ((zT n.store (k::d)).2=31)||(true && decide ((zT n.store (k::d)).2≠0)))=true:=by rw [h1];simp
  have ad:∀l'',((n.down||decide ((zT n.store (k::d)).2=31)||(true && decide ((zT n.store (k::d)).2≠0)))=false->(zT n.store (k::d)).1.crashed=false/\n.acc=(RR l'').1/\p=(RR l'').2):=λl'' h=>by rw [ac] at h;cases h
  rcases h3 with h3|h3
  ·exact⟨l,⟨⟨h3,ad l,h.acc,vals,hv⟩,U0 _,U0 _,U0 _,(λh=>h),rfl,rfl,rfl⟩,λh=>by rw [h1] at h;simp at h,λ_=>ac⟩
  refine⟨l++ [k::d],⟨⟨h3,ad _,?_,vals,hv.more _ rfl rfl rfl rfl⟩,List.prefix_append _ _,U0 _,U0 _,(λx=>by rw [aa];exact x),rfl,rfl,rfl⟩,λh=>by rw [h1] at h;simp at h,λ_=>ac⟩
  show n.acc<+:_;rw [aa];exact h.acc
 have ac:(n.down||decide ((zT n.store (k::d)).2=31)||(true && decide ((zT n.store (k::d)).2≠0)))=true:=by rw [h1];simp
 refine⟨l,⟨⟨by show zbQ (zT n.store (k::d)).1 l;rw [h2];exact h.kept,λh=>?_,h.acc,vals,hv⟩,U0 _,U0 _,U0 _,(λh=>h),rfl,rfl,rfl⟩,λh=>by rw [h1] at h;simp at h,λ_=>ac⟩;have h':(n.down||decide ((zT n.store (k::d)).2=31)||(true && decide ((zT n.store (k::d)).2≠0)))=false:=h;rw [ac] at h';cases h'
theorem zb2 {s:StD}{n:zr}{l:List (List UInt8)}(h:zaM s n l)(i:Int)(b:Nat)(hb:b<18446744073709551616):∃l',vW s n l (zC n i b).1 l'/\((zC n i b).2.2=0->b<=(zO (RR l').2 i).1):=by
 unfold zC
 by_cases hd:n.down=false
 ·rw [if_neg (by rw [hd];simp)]
  by_cases he:(zD n.pax i b).2.2.2≠0
  ·rw [if_pos he];exact⟨l,vW.refl h,λh=>absurd h he⟩
  rw [if_neg he]
  obtain⟨h1,h2,h3,h4,h5,h6⟩:=zaI hb (Decidable.not_not.1 he);have aa:(zD n.pax i b).2.2.1=112::(le4 (i.toNat % 4294967296)++le8 b):=by rw [h2];rfl
  obtain⟨l',k1,k2,k3⟩:=Xt h hd (zD n.pax i b).1 112 (le4 (i.toNat % 4294967296)++le8 b) (by decide) (by rw [← aa];exact h1.symm);rw [← aa] at k1 k2 k3
  split
  ·rename_i hq;exact⟨l',k1,λh=>absurd h hq⟩
  rename_i hq
  refine⟨l',k1,λ_=>?_⟩;have ad:=k2 (Decidable.not_not.1 hq);have hp:=(k1.inv.up ad.2).2.2;have ac:(zD n.pax i b).1=(RR l').2:=hp;rw [← ac,h6]
  show b<=((zE i (put i _ n.pax.votes)).getD (0,0,[])).1
  rw [yE,if_pos rfl];exact N0 _
 rw [if_pos (by simpa using hd)]
 exact⟨l,vW.refl h,λh=>by simp at h⟩
theorem zb3 {s:StD}{n:zr}{l:List (List UInt8)}(h:zaM s n l)(i:Int)(b:Nat)(x:List UInt8)(hb:b<18446744073709551616):∃l',vW s n l (yS n i b x).1 l':=by
 unfold yS
 by_cases hd:n.down=false
 ·rw [if_neg (by rw [hd];simp)]
  by_cases he:(vO n.pax i b x).2.2≠0
  ·rw [if_pos he];exact⟨l,vW.refl h⟩
  rw [if_neg he]
  obtain⟨h1, -, -, -, -, -,h2⟩:=zfX hb (Decidable.not_not.1 he);have aa:(vO n.pax i b x).2.1=118::(le4 (i.toNat % 4294967296)++(le8 b++x)):=by rw [h2];rfl
  obtain⟨l',k1, -, -⟩:=Xt h hd (vO n.pax i b x).1 118 (le4 (i.toNat % 4294967296)++(le8 b++x)) (by decide) (by rw [← aa];exact h1.symm);rw [← aa] at k1;exact⟨l',k1⟩
 rw [if_pos (by simpa using hd)]
 exact⟨l,vW.refl h⟩
theorem QY {s:StD}{n:zr}{l:List (List UInt8)}(h:zaM s n l)(hd:n.down=false)(k:Nat):vW s n l (jp k n).1 l:=by
 obtain⟨hc,ha,hx⟩:=h.up hd;obtain⟨vals,hv⟩:=h.loc;have aa:xP n s n.pax.known vals:=by rw [hx];exact hv
 obtain⟨hs,more,h1, -⟩:=Xs s k n vals aa;rw [hx] at h1;refine⟨⟨by rw [hs.store];exact h.kept,λ_=>by rw [hs.store,hs.acc,hs.pax];exact⟨hc,ha,hx⟩,by rw [hs.acc];exact h.acc,_,h1⟩,U0 _,by rw [hs.acc];exact U0 _,?_,λh=>h,hs.id,hs.version,hs.bad⟩;rw [h1.2.1,hv.2.1,hs.version,hs.bad];exact zb0 _ _ _ _ _
theorem YY {s:StD}{n:zr}{l:List (List UInt8)}(h:zaM s n l)(i:Int)(x:List UInt8):∃l',vW s n l (jg n i x).1 l':=by
 unfold jg
 by_cases hd:n.down=false
 ·rw [if_neg (by rw [hd];simp)]
  by_cases he:(zV n.pax i x).2.2≠0
  ·rw [if_pos he];exact⟨l,vW.refl h⟩
  rw [if_neg he]
  by_cases hr:(zV n.pax i x).2.1=[]
  ·rw [if_pos hr]
   have ac:(zV n.pax i x).1=n.pax:=zfY (.inr hr);rw [ac];exact⟨l,QY h hd _⟩
  rw [if_neg hr]
  obtain⟨h1, -, -, -, -, -,h2⟩:=zdC (Decidable.not_not.1 he) hr;have aa:(zV n.pax i x).2.1=100::(le4 (i.toNat % 4294967296)++x):=by rw [h2];rfl
  obtain⟨l',k1,k2,k3⟩:=Xt h hd (zV n.pax i x).1 100 (le4 (i.toNat % 4294967296)++x) (by decide) (by rw [← aa];exact h1.symm);rw [← aa] at k1 k2 k3
  generalize j7 {n with pax:=(zV n.pax i x).1} true (zV n.pax i x).2.1=q at*
  by_cases hq:q.2≠0
  ·exact⟨l',by simp only [if_pos hq];exact k1⟩
  have ad:=k2 (Decidable.not_not.1 hq)
  exact⟨l',by simp only [if_neg hq];exact k1.trans (QY k1.inv ad.2 _)⟩
 rw [if_pos (by simpa using hd)]
 exact⟨l,vW.refl h⟩
theorem QZ {m:zA}(h:zx m=true)(q:List zA×xH):jY q ([109] ++(j0 [m]).1)=(q.1++ [m],q.2):=by
 have hp:=VU h;have hu:=Xo (l:=[m]) (by rw [hp])
 show jY q (109::(j0 [m]).1)=_
 unfold jY;simp only;rw [hu,if_pos (by simp)]
theorem Qx {s:StD}{n:zr}{l:List (List UInt8)}(h:zaM s n l)(d:List UInt8):
 ∃l',vW s n l (zv n d).1 l'/\((zv n d).2.2=0->(zv n d).2.1.1=(n.id,n.acc.length+1)/\(zv n d).1.acc=n.acc++ [(zv n d).2.1] /\n.down=false):=by
 unfold zv
 by_cases hd:n.down=false
 ·rw [if_neg (by rw [hd];simp)]
  obtain⟨hc,ha,hx⟩:=h.up hd;obtain⟨vals,hv⟩:=h.loc
  by_cases hr:zx ((n.id,n.acc.length+1),d)=false
  ·rw [if_pos hr];exact⟨l,vW.refl h,λh=>by simp at h⟩
  rw [if_neg hr]
  have ai:zx ((n.id,n.acc.length+1),d)=true:=by simpa using hr
  have ae:=QZ ai (RR l)
  generalize hmm:((n.id,n.acc.length+1),d)=m at*
  generalize [109] ++(j0 [m]).1=rec at*
  have ad:RR (l++ [rec])=((RR l).1++ [m],(RR l).2):=by rw [zdG];exact ae
  have ac:zj5 n.id (RR l).1->zj5 n.id (RR (l++ [rec])).1:=λx j y hj=>by
   rw [ad] at hj;have aa:((RR l).1++ [m])[j]?=some y:=hj
   rcases Nat.lt_or_ge j (RR l).1.length with hlt|hge
   ·rw [U8 hlt] at aa;exact x j y aa
   rw [U6 hge] at aa
   have aj:j=(RR l).1.length:=by
    have:=(N6.1 aa).1;simp at this;omega
   subst aj;simp at aa
   rw [← aa,← hmm,ha]
  unfold j7;simp only [Bool.false_and,Bool.or_false]
  rcases Z5 h.kept rec with⟨h1, -,h3,h4⟩|⟨h1,h2,h3⟩|⟨h1,h2⟩
  ·rw [if_neg (by rw [h1];simp)]
   have ho:=vm (n.acc.length+1) {n with store:=(zT n.store rec).1,down:=n.down||decide ((zT n.store rec).2=31),acc:=n.acc++ [m] };have af:(n.down||decide ((zT n.store rec).2=31))=false:=by rw [h1,hd];rfl
   have ag:zaM s {n with store:=(zT n.store rec).1,down:=n.down||decide ((zT n.store rec).2=31),acc:=n.acc++ [m] } (l++ [rec]):=
    ⟨h4,λ_=>⟨h3,by show n.acc++ [m]=_;rw [ad,ha],by show n.pax=_;rw [ad,hx]⟩,by show n.acc++ [m] <+:_;rw [ad,ha];exact U0 _,vals,hv.more _ rfl rfl rfl rfl⟩
   refine⟨l++ [rec],⟨ag.same ho.1 ho.2.2 ho.2.1,List.prefix_append _ _,?_,?_,ac,ho.1.id,ho.1.version,ho.1.bad⟩,λ_=>⟨?_,ho.1.acc,hd⟩⟩
   ·rw [ho.1.acc];exact List.prefix_append _ _
   ·rw [ho.2.1];exact U0 _
   show m.1=_;rw [← hmm]
  ·rw [if_pos (by rw [h1];simp)]
   have af:(n.down||decide ((zT n.store rec).2=31))=true:=by rw [h1];simp
   have ah:∀l'',((n.down||decide ((zT n.store rec).2=31))=false->(zT n.store rec).1.crashed=false/\n.acc=(RR l'').1/\n.pax=(RR l'').2):=λl'' h=>by rw [af] at h;cases h
   rcases h3 with h3|h3
   ·exact⟨l,⟨⟨h3,ah l,h.acc,vals,hv⟩,U0 _,U0 _,U0 _,(λh=>h),rfl,rfl,rfl⟩,λh=>by rw [h1] at h;simp at h⟩
   refine⟨l++ [rec],⟨⟨h3,ah _,?_,vals,hv.more _ rfl rfl rfl rfl⟩,List.prefix_append _ _,U0 _,U0 _,ac,rfl,rfl,rfl⟩,λh=>by rw [h1] at h;simp at h⟩
   show n.acc<+:_;rw [ad];exact h.acc.trans (List.prefix_append _ _)
  rw [if_pos (by rw [h1];simp)]
  have af:(n.down||decide ((zT n.store rec).2=31))=n.down:=by rw [h1];simp
  refine⟨l,⟨⟨by show zbQ (zT n.store rec).1 l;rw [h2];exact h.kept,λ_=>?_,h.acc,vals,hv⟩,U0 _,U0 _,U0 _,(λh=>h),rfl,rfl,rfl⟩,λh=>by rw [h1] at h;simp at h⟩
  show(zT n.store rec).1.crashed=false/\_;rw [h2];exact⟨hc,ha,hx⟩
 rw [if_pos (by simpa using hd)]
 exact⟨l,vW.refl h,λh=>by simp at h⟩
theorem zh6 {s:StD}{n:zr}{l:List (List UInt8)}(h:zaM s n l)(v:Int):vW s n l (JI n v).1 l:=by
 unfold JI
 split
 ·exact vW.refl h
 split
 ·exact vW.refl h
 exact⟨h.same ⟨rfl,rfl,rfl,rfl,rfl,rfl,rfl⟩ rfl rfl,U0 _,U0 _,U0 _,(λh=>h),rfl,rfl,rfl⟩
theorem zj7 {s:StD}{n:zr}{l:List (List UInt8)}(h:zaM s n l)(k:Int):vW s n l (J4 n k).1 l:=by
 unfold J4
 split
 ·exact vW.refl h
 have hk:=zj3 h.kept k
 obtain⟨vals,hv⟩:=h.loc;exact⟨⟨hk.1,λhd=>⟨hk.2.trans (h.up hd).1,(h.up hd).2⟩,h.acc,vals,hv⟩,U0 _,U0 _,U0 _,(λh=>h),rfl,rfl,rfl⟩
theorem zf3 {s:StD}{n:zr}{l:List (List UInt8)}(h:zaM s n l):vW s n l (vU n).1 l:=by
 unfold vU
 split
 ·exact vW.refl h
 obtain⟨vals,hv⟩:=h.loc
 exact⟨⟨h.kept,(λhd=>absurd hd (by simp)),h.acc,vals,hv⟩,U0 _,U0 _,U0 _,(λh=>h),rfl,rfl,rfl⟩
theorem zb4 {known:List (Int×List UInt8)}(hk:yz known){a b:List (List UInt8)}(ha:∀(j:Nat)(x:List UInt8),a[j]?=some x->zE ((j:Int)+1) known=some x)(hb:∀(j:Nat)(x:List UInt8),b[j]?=some x->zE ((j:Int)+1) known=some x)
 (he:zE ((b.length:Int)+1) known=none∨b.length=10001):a<+:b:=by
 have aa:a.length<=b.length:=by
  rcases Nat.lt_or_ge b.length a.length with h|h
  ·exfalso
   obtain⟨x,hx⟩:∃x,a[b.length]?=some x:=⟨_,N3 h⟩;have h1:=ha _ _ hx
   rcases he with he|he
   ·rw [he] at h1;cases h1
   have:=hk _ _ h1;omega
  exact h
 rw [List.prefix_iff_eq_take]
 apply List.ext_getElem?
 intro j;rw [List.getElem?_take]
 split
 ·rename_i hj
  obtain⟨x,hx⟩:∃x,a[j]?=some x:=⟨_,N3 hj⟩;obtain⟨y,hy⟩:∃y,b[j]?=some y:=⟨_,N3 (by omega)⟩;have h1:=ha _ _ hx;have h2:=hb _ _ hy;rw [h1] at h2;cases h2
  rw [hx,hy]
 rename_i hj;rw [List.getElem?_eq_none (by omega)]
theorem zb5 {s:StD}{n:zr}{l:List (List UInt8)}(h:zaM s n l):vW s n l (jt n s) l/\(jt n s).down=false:=by
 obtain⟨r1,r2,r3⟩:=Vt h.kept;obtain⟨vals,hv⟩:=h.loc;unfold jt;simp only;rw [r1,Xr]
 generalize hm:({vZ {n with store:=(zZ n.store).1} s with acc:=(l.foldl jY ((vZ {n with store:=(zZ n.store).1} s).acc,(vZ {n with store:=(zZ n.store).1} s).pax)).1,pax:=(l.foldl jY ((vZ {n with store:=(zZ n.store).1} s).acc,(vZ {n with store:=(zZ n.store).1} s).pax)).2} :zr)=m
 have m1:m.acc=(RR l).1:=by rw [← hm];rfl
 have m2:m.pax=(RR l).2:=by rw [← hm];rfl
 have m3:m.store=(zZ n.store).1:=by rw [← hm];rfl
 have m4:m.id=n.id/\m.version=n.version/\m.bad=n.bad:=by rw [← hm];exact⟨rfl,rfl,rfl⟩
 have hA:xP m s m.pax.known []:=⟨by rw [← hm];rfl,by rw [← hm];rfl,λj x hj=>by simp at hj⟩;obtain⟨hs,more,h1,h2⟩:=Xs s 10001 m [] hA;rw [List.nil_append] at h1 h2;rw [m2] at h1 h2;have ho:=vm ((jp 10001 m).1.acc.length+1) (jp 10001 m).1
 generalize jE ((jp 10001 m).1.acc.length+1) (jp 10001 m).1=q at*
 have hq:xQ m q:=hs.trans ho.1;have ac:xP q s (RR l).2.known more:=⟨h1.1.trans ho.2.2.symm,by rw [ho.2.1,h1.2.1,ho.1.version,ho.1.bad],h1.2.2⟩;have aa:=zb4 (zaL l) hv.2.2 h1.2.2 h2;refine⟨⟨⟨by show zbQ q.store l;rw [hq.store,m3];exact r2,λ_=>⟨by show q.store.crashed=false;rw [hq.store,m3];exact r3,by show q.acc=_;rw [hq.acc,m1],by show q.pax=_;rw [hq.pax,m2]⟩,by show q.acc<+:_;rw [hq.acc,m1];exact U0 _,more,ac⟩,U0 _,?_,?_,(λh=>h),hq.id.trans m4.1,hq.version.trans m4.2.1,hq.bad.trans m4.2.2⟩,by first|exact rfl|exact trivial⟩
 ·show n.acc<+:q.acc;rw [hq.acc,m1];exact h.acc
 show n.loc.log<+:q.loc.log
 rw [ac.2.1,hv.2.1,hq.version,hq.bad,m4.2.1,m4.2.2];obtain⟨t,ht⟩:=aa;rw [← ht];exact zb0 _ _ _ _ _
structure zlU where
 what:Int
 inst:Int
 b:Nat
 s:List UInt8
def zb6(x:zlU):List UInt8:=if x.b=77 then List.replicate 1100 0 else x.s.take 300
def zb7(x:zlU):Nat:=(x.what % 18446744073709551616).toNat % 9
def zdI(s:StD)(n:zr)(x:zlU):zr:=
 if zb7 x=0 then(zv n (zb6 x)).1
 else if zb7 x=1 then(zC n x.inst x.b).1
 else if zb7 x=2 then(yS n x.inst x.b (zb6 x)).1
 else if zb7 x=3 then(jg n x.inst (zb6 x)).1
 else if zb7 x=4 then(JI n x.inst).1
 else if zb7 x=5 then(J4 n x.inst).1
 else if zb7 x=6 then(vU n).1
 else if zb7 x=7 then jt n s
 else if(jX n).2 then(jg n (yM n) (jX n).1).1 else n
theorem zb8 {s:StD}{n:zr}{l:List (List UInt8)}(h:zaM s n l)(x:zlU)(hb:x.b<18446744073709551616):∃l',vW s n l (zdI s n x) l':=by
 unfold zdI
 split
 ·obtain⟨l',h1, -⟩:=Qx h (zb6 x);exact⟨l',h1⟩
 split
 ·obtain⟨l',h1, -⟩:=zb2 h x.inst x.b hb;exact⟨l',h1⟩
 split
 ·exact zb3 h x.inst x.b (zb6 x) hb
 split
 ·exact YY h x.inst (zb6 x)
 split
 ·exact⟨l,zh6 h _⟩
 split
 ·exact⟨l,zj7 h _⟩
 split
 ·exact⟨l,zf3 h⟩
 split
 ·exact⟨l,(zb5 h).1⟩
 split
 ·exact YY h _ _
 exact⟨l,vW.refl h⟩
def zhv(id v cap:Int)(bad:List Int)(s:StD):zr:={id:=id,version:=v,bad:=bad,store:=Zd cap,pax:=xl,loc:=zeT v s,pool:=Ze,acc:=[],offered:=0,applied:=0,wanted:=0,down:=false}
theorem zj8(id v cap:Int)(bad:List Int)(s:StD):zaM s (zhv id v cap bad s) []:=⟨Yk cap,λ_=>⟨rfl,rfl,rfl⟩,U0 _,[],rfl,rfl,λj x hj=>by simp at hj⟩
def vP(s:yl):Prop:=(s.log.length:Int)<=s.cap/\s.cap<=1048576/\0<=s.keep
theorem zh7 {s:yl}(h:vP s)(d:List UInt8):vP (zT s d).1/\(zT s d).1.cap=s.cap:=by
 obtain⟨h1,h2,h3⟩:=h;unfold zT
 split
 ·exact⟨⟨h1,h2,h3⟩,rfl⟩
 split
 ·exact⟨⟨h1,h2,h3⟩,rfl⟩
 split
 ·exact⟨⟨h1,h2,h3⟩,rfl⟩
 rename_i hc
 split
 ·refine⟨⟨?_,h2,h3⟩,rfl⟩
  show(((s.log++(zH d).1).length:Nat):Int)<=s.cap
  rw [N1];omega
 refine⟨⟨?_,h2,Int.le_refl _⟩,rfl⟩
 show(((s.log++(zH d).1.take (min s.keep ((zH d).1.length:Int)).toNat).length:Nat):Int)<=s.cap
 rw [N1,N7];omega
theorem zlm {s:yl}(h:vP s)(k:Int):vP (zdf s k).1:=by
 obtain⟨h1,h2,h3⟩:=h;unfold zdf
 split
 ·exact⟨h1,h2,h3⟩
 split
 ·exact⟨h1,h2,h3⟩
 exact⟨h1,h2,by show 0<=k;omega⟩
theorem zdJ {s:yl}(h:vP s):vP (zZ s).1:=by
 obtain⟨h1,h2,h3⟩:=h;unfold zZ;refine⟨?_,h2,Int.le_refl _⟩
 show((s.log.take (xN s.log.length s.log).2).length:Int)<=s.cap
 rw [N7];omega
theorem zb9 {cap:Int}(h1:64<=cap)(h2:cap<=1048576):vP (Zd cap):=⟨by simp [Zd];omega,h2,Int.le_refl _⟩
theorem Z6 {n:zr}(h:vP n.store)(b:Bool)(d:List UInt8):vP (j7 n b d).1.store:=(zh7 h d).1
theorem xQ.cap {n m:zr}(hs:xQ n m)(h:vP n.store):vP m.store:=by rw [hs.store];exact h
def zca(s:StD)(n:zr):Prop:=(∃l,zaM s n l)/\vP n.store
theorem vo:∀(k:Nat)(n:zr),xQ n (jp k n).1
 |0,n=>xQ.refl n
 |k+1,n=>by
  unfold jp
  cases zE ((n.applied:Int)+1) n.pax.known with
  |none=>exact xQ.refl n
  |some x=>
   simp only
   split
   ·have h:=vo k {n with applied:=n.applied+1}
    exact⟨h.id,h.version,h.bad,h.store,h.pax,h.acc,h.down⟩
   have h1:=(YX {n with applied:=n.applied+1} (jz x).1).1
   have h:=vo k (v7 {n with applied:=n.applied+1} (jz x).1).1;exact xQ.trans ⟨h1.id,h1.version,h1.bad,h1.store,h1.pax,h1.acc,h1.down⟩ h
theorem zaN {n:zr}(h:vP n.store)(d:List UInt8):vP (zv n d).1.store:=by
 unfold zv
 split
 ·exact h
 split
 ·exact h
 split
 ·exact Z6 h _ _
 exact(vm _ _).1.cap (Z6 (n:=n) h false ([109] ++(j0 [((n.id,n.acc.length+1),d)]).1))
theorem zdK {n:zr}(h:vP n.store)(i:Int)(b:Nat):vP (zC n i b).1.store:=by
 unfold zC
 split
 ·exact h
 split
 ·exact h
 split
 ·exact Z6 (n:={n with pax:=(zD n.pax i b).1}) h _ _
 exact Z6 (n:={n with pax:=(zD n.pax i b).1}) h _ _
theorem zeY {n:zr}(h:vP n.store)(i:Int)(b:Nat)(x:List UInt8):vP (yS n i b x).1.store:=by
 unfold yS
 split
 ·exact h
 split
 ·exact h
 exact Z6 (n:={n with pax:=(vO n.pax i b x).1}) h _ _
theorem Xu {n:zr}(h:vP n.store)(i:Int)(x:List UInt8):vP (jg n i x).1.store:=by
 unfold jg
 split
 ·exact h
 simp only
 split
 ·exact h
 split
 ·exact(vo _ _).cap h
 have hk:=Z6 (n:={n with pax:=(zV n.pax i x).1}) h true (zV n.pax i x).2.1
 split
 ·exact hk
 exact(vo _ _).cap hk
theorem zcb {s:StD}{n:zr}(h:vP n.store):vP (jt n s).store:=by
 unfold jt;simp only;rw [Xr];have hr:=zdJ h;exact(vm _ _).1.cap ((vo _ _).cap hr)
theorem zln {s:StD}{n:zr}(h:zca s n)(x:zlU)(hb:x.b<18446744073709551616):zca s (zdI s n x):=by
 obtain⟨⟨l,hi⟩,hc⟩:=h;obtain⟨l',hs⟩:=zb8 hi x hb;refine⟨⟨l',hs.inv⟩,?_⟩;unfold zdI
 split
 ·exact zaN hc _
 split
 ·exact zdK hc _ _
 split
 ·exact zeY hc _ _ _
 split
 ·exact Xu hc _ _
 split
 ·unfold JI;split
  ·exact hc
  split<;>exact hc
 split
 ·unfold J4;split
  ·exact hc
  exact zlm hc _
 split
 ·unfold vU;split<;>exact hc
 split
 ·exact zcb hc
 split
 ·exact Xu hc _ _
 exact hc
theorem zeZ(l:List (List UInt8)):(RR l).1.length<=l.length:=by
 suffices h:∀(l:List (List UInt8)) (q:List zA×xH),(l.foldl jY q).1.length<=q.1.length+l.length by simpa [RR] using h l ([],xl)
 intro l
 induction l with
 |nil=>intro q;simp
 |cons r l ih=>
  intro q;have h1:=ih (jY q r)
  have h2:(jY q r).1.length<=q.1.length+1:=by
   unfold jY
   cases r with
   |nil=>simp
   |cons k d=>
    simp only
    split
    ·rename_i h;rw [N1,h.2.2];omega
    simp
  rw [List.foldl_cons,List.length_cons];omega
theorem zlo(v:Int)(bad:List Int)(s:StD):∀(vals:List (List UInt8)),xm (zbY v bad s vals) vals.length:=by
 suffices h:∀(vals:List (List UInt8)) (L:zP) (k:Nat),xm L k->xm (vals.foldl (qH bad) L) (k+vals.length)by
  intro vals;have:=h vals (zeT v s) 0 (zkV v s)
  rwa [Nat.zero_add] at this
 intro vals
 induction vals with
 |nil=>intro L k h;exact h
 |cons x vals ih=>
  intro L k h
  have h1:xm (qH bad L x) (k+1):=by
   unfold qH
   split
   ·exact h.mono (by omega)
   exact zaK h _ _
  have:=ih _ _ h1;rw [List.foldl_cons,List.length_cons,show k+(vals.length+1)=k+1+vals.length by omega];exact this
theorem zh8 {known:List (Int×List UInt8)}(hk:yz known){a:List (List UInt8)}(ha:∀(j:Nat)(x:List UInt8),a[j]?=some x->zE ((j:Int)+1) known=some x):a.length<=10000:=by
 rcases Nat.lt_or_ge 10000 a.length with h|h
 ·exfalso
  obtain⟨x,hx⟩:∃x,a[10000]?=some x:=⟨_,N3 h⟩;have:=hk _ _ (ha _ _ hx);omega
 exact h
theorem zca.bounds {s:StD}{n:zr}(h:zca s n):n.store.log.length<=1048576/\n.acc.length<=116508/\n.applied<=10000/\xm n.loc n.applied:=by
 obtain⟨⟨l,hi⟩,h1,h2,h3⟩:=h;obtain⟨aa,ad,hl, -, -⟩:=hi.kept;obtain⟨vals,hv⟩:=hi.loc;have hr:=zeW aa;have ha:=zeZ l;have hp:=hi.acc.length_le;have ac:(recs l).length<=n.store.log.length:=by rw [hl,N1];omega
 refine⟨by omega,by omega,?_,?_⟩
 ·rw [← hv.1];exact zh8 (zaL l) hv.2.2
 rw [hv.2.1,← hv.1];exact zlo _ _ _ _
def zmX:List UInt8->List UInt8->List UInt8
 | [],_=>[]
 |b::l,[]=>b::l
 |b::l,c::m=>(b ^^^ c)::zmX l m
def zmB(mask r:Nat):List UInt8:=(le4 (mask*2 ^ r))++ [UInt8.ofNat (mask*2 ^ r / 4294967296)]
def zdL(s:List UInt8)(bit:Int)(mask:Nat):List UInt8×Int:=
 if bit<0∨(s.length:Int)<=bit / 8 then([],2)
 else(s.take (bit.toNat / 8)++zmX (s.drop (bit.toNat / 8)) (zmB mask (bit.toNat % 8)),0)
