/- PARTS OF THE PROOF. -/
import Derived.Test.YtobnhnidffipjaaGreatDoorK11
import Derived.Test.YtobnhnidffipjaaGreatDoorK14
set_option maxRecDepth 8000
set_option maxHeartbeats 4000000
namespace Go.Proofs.YtobnhnidffipjaaGreatDoor
open Go
def qv:List Nat->List zB->Prop
 |_,[]=>True
 |tk,x::l=>(0<=x.1.1/\x.1.1<=15/\x.1.2=(tk[x.1.1.toNat]?.getD 0)+1/\x.1.2<=4294967294)/\qv (tk.set x.1.1.toNat x.1.2) l
theorem qm {m:zB}(h:zF m=true):0<=m.1.1/\m.1.1<=15/\m.2.length<=1000/\1<=m.1.2/\m.1.2<=4294967294:=by
 simp [zF] at h
 omega
theorem qv.append:∀ {tk:List Nat} {a b:List zB},qv tk a->qv (x8 tk a) b->qv tk (a++b)
 |_,[],_,_,h2=>h2
 |_,_::a,_,h,h2=>⟨h.1,qv.append (a:=a) h.2 h2⟩
theorem zaT(tk:List Nat)(a b:List zB):x8 tk (a++b)=x8 (x8 tk a) b:=by simp [x8,List.foldl_append]
theorem VM:∀(n:Nat)(ws:List (MId×zB)) (x:zB) (tk:List Nat),tk.length=16->zb3 ws->zF x=true->x.1.2=(tk[x.1.1.toNat]?.getD 0)+1->qv tk (zW n ws x).2
 |0,ws,x,tk,ht,hw,hx,h=>by
  have:=qm hx;exact⟨⟨this.1,this.2.1,h,this.2.2.2.2⟩,trivial⟩
 |n+1,ws,x,tk,ht,hw,hx,h=>by
  have hp:=qm hx;unfold zW
  cases hl:zK (x.1.1,(x.1.2+1)% 4294967296) (del x.1 ws)with
  |none=>exact⟨⟨hp.1,hp.2.1,h,hp.2.2.2.2⟩,trivial⟩
  |some y=>
   have hy:=(hw.del x.1) _ (xy hl);have hy1:y.1=(x.1.1,(x.1.2+1)% 4294967296):=hy.1;refine⟨⟨hp.1,hp.2.1,h,hp.2.2.2.2⟩,?_⟩;refine VM n (del x.1 ws) y _ (by simpa using ht) (hw.del _) hy.2 ?_;rw [hy1];simp only;rw [List.getElem?_set_self (by omega)];simp only [Option.getD_some];omega
theorem zaU {b:vl}(hok:vQ b)(m:zB):qv b.tk (xJ b m).2.1/\(xJ b m).1.tk=x8 b.tk (xJ b m).2.1:=by
 unfold xJ
 split
 ·exact⟨trivial,rfl⟩
 ·rename_i hr
  have hr':zF m=true:=by simpa using hr
  have hp:=qm hr'
  split
  ·split<;>exact⟨trivial,rfl⟩
  ·rename_i hn
   have hn':m.1.2=Jy b m.1.1:=by simpa using hn
   refine⟨VM _ _ _ _ hok.sixteen hok.keys hr' ?_,rfl⟩;unfold Jy at hn';rw [if_pos (by simp [vm];omega)] at hn'
   have hm:b.tk[m.1.1.toNat]?.getD 0<=4294967294:=by
    cases h:b.tk[m.1.1.toNat]? with
    |none=>simp
    |some n=>exact hok.most n (List.mem_of_getElem? h)
   omega
theorem Zl {b:vl}(hok:vQ b):∀(l:List zB),qv b.tk (z7 b l).2/\(z7 b l).1.tk=x8 b.tk (z7 b l).2
 | []=>⟨trivial,rfl⟩
 |m::l=>by
  have h1:=zaU hok m;have h2:=Zl (zgg hok m) l;simp only [z7];refine⟨h1.1.append (by rw [← h1.2];exact h2.1),?_⟩;rw [h2.2,h1.2,zaT]
theorem JN {f:yI}(hok:vQ f.book)(e:jB):qv f.book.tk (jX f e).2.1/\(jX f e).1.book.tk=x8 f.book.tk (jX f e).2.1/\(jX f e).1.book.log=f.book.log++(jX f e).2.1/\(e.kind≠1->(jX f e).2.1=[]):=by
 unfold jX
 split
 ·exact⟨trivial,rfl,by simp,λ_=>rfl⟩
 ·split
  ·exact⟨trivial,rfl,by simp,λ_=>rfl⟩
  ·split
   ·rename_i hk
    have h1:=Zl hok e.msgs;exact⟨h1.1,h1.2,(qy hok e.msgs).2.2,λh=>absurd hk h⟩
   ·split
    ·split
     ·exact⟨trivial,rfl,by simp,λ_=>rfl⟩
     ·exact⟨trivial,rfl,by simp [vG],λ_=>rfl⟩
    ·split
     ·exact⟨trivial,rfl,by simp,λ_=>rfl⟩
     ·exact⟨trivial,rfl,by simp [vG],λ_=>rfl⟩
theorem zeO {i:Int}(h0:0<=i)(h:i<=255):((UInt8.ofNat (i % 256).toNat).toNat:Int)=i:=by
 rw [UInt8.toNat_ofNat'];omega
theorem JO(m:zB):(jm m).length=9+m.2.length:=by
 unfold jm;simp [VG];omega
theorem zeP {m:zB}(h:zF m=true)(rest:List UInt8):vK (jm m++rest)=(m,9+m.2.length):=by
 obtain⟨⟨i,c⟩,d⟩:=m;have hp:=qm h;simp only at hp;have hl:=JO ((i,c),d);simp only at hl;have h1:(jm ((i,c),d)++rest).head?.getD 0=UInt8.ofNat (i % 256).toNat:=rfl;have h2:((jm ((i,c),d)++rest).drop 1).take 4=le4 c:=rfl;have h3:((jm ((i,c),d)++rest).drop 5).take 4=le4 d.length:=rfl;have h4:(jm ((i,c),d)++rest).drop 9=d++rest:=rfl;have hb:=zeO hp.1 (by omega);have hc:c % 4294967296=c:=by omega
 have hd:d.length % 4294967296=d.length:=by omega
 have htk:(d++rest).take d.length=d:=by rw [List.take_left'];rfl
 unfold vK;rw [h1,h2,h3,h4,xz,xz,hc,hd,hb,htk,if_neg (by rw [N1];omega),if_neg (by rw [N1];omega),if_neg (by rw [h];simp)]
theorem YR:∀(l:List zB),l.all zF=true->yK l.length (l.flatMap jm)=some l
 | [],_=>rfl
 |m::l,h=>by
  simp only [List.all_cons,Bool.and_eq_true] at h;have hf:=zeP h.1 (l.flatMap jm);have hl:=JO m;have hd:(jm m++l.flatMap jm).drop (9+m.2.length)=l.flatMap jm:=by rw [List.drop_left'];omega
  show yK (l.length+1) (jm m++l.flatMap jm)=_
  unfold yK;rw [hf];simp only;rw [if_neg (by omega),hd,YR l h.2];rfl
theorem zjw {l:List zB}(h:(yD l).2=0):l.length<=64/\l.all zF=true/\yD l=([UInt8.ofNat (l.length % 256)] ++l.flatMap jm,0):=by
 unfold yD at h⊢
 split at h
 ·simp at h
 ·rename_i h1
  rw [if_neg h1]
  split at h
  ·rename_i h2
   rw [if_pos h2];exact⟨by omega,h2,rfl⟩
  ·simp at h
theorem zcC {l:List zB}(h:(yD l).2=0):jF (yD l).1=(l,0):=by
 obtain⟨h1,h2,h3⟩:=zjw h;rw [h3];unfold jF;have hb:(UInt8.ofNat (l.length % 256)).toNat=l.length:=by rw [UInt8.toNat_ofNat'];omega
 simp only [List.cons_append,List.nil_append];rw [hb,if_neg (by omega),YR l h2]
theorem zdW {m:zB}(h:zF m=true):yD [m]=([1] ++jm m,0):=by
 unfold yD;rw [if_neg (by simp),if_pos (by simp [h])];simp
theorem zgI {f:yI}{e:jB}(h:(jX f e).2.2.2≠0):jX f e=(f,[],false,140):=by
 unfold jX at h⊢
 split
 ·rfl
 ·rename_i h1
  rw [if_neg h1] at h
  exfalso
  revert h
  repeat' split
  all_goals simp
theorem VN(L:zR)(e:jB)(fails:Bool):(j9 L e fails).1.fold=(jX L.fold e).1:=by
 unfold j9
 split
 ·rfl
 ·unfold yp zh9 j3 qO
  repeat' split
  all_goals rfl
theorem xR(L:zR)(R:yI×List zB×Bool×Int)(fails:Bool):(zh9 L R fails).held=L.held/\(zh9 L R fails).log=L.log:=by
 unfold zh9 j3
 split<;>exact⟨rfl,rfl⟩
theorem zaV(L:zR):(yp L).1.log++(yp L).1.held=L.log++L.held:=by
 unfold yp
 split<;>simp
theorem zaW(L:zR):(yp L).2.length<=L.held.length:=by
 unfold yp
 split<;>simp
structure vS(L:zR)(k:Nat):Prop where
 fold:Y6 L.fold k
 all:L.log++L.held=L.fold.book.log
theorem vS.mono {L:zR}{k n:Nat}(h:vS L k)(hk:k<=n):vS L n:=⟨h.fold.mono hk,h.all⟩
theorem zi3(v:Int)(s:StD):vS (zhK v s) 0:=⟨zgH v,rfl⟩
theorem vS.len {L:zR}{k:Nat}(h:vS L k):L.log.length+L.held.length<=64*k:=by
 have h1:=congrArg List.length h.all;rw [N1] at h1;have h2:=h.fold.few;unfold qL at h2;omega
theorem QT {L:zR}{k:Nat}(h:vS L k)(e:jB)(fails:Bool):vS (j9 L e fails).1 (k+1):=by
 refine⟨by rw [VN];exact zcB h.fold e,?_⟩;rw [VN,(JN h.fold.ok e).2.2.1];unfold j9
 split
 ·rename_i hr
  have:=zgI hr;rw [this];simp only [List.append_nil];exact h.all
 ·rw [zaV]
  unfold qO;simp only [(xR L _ fails).1,(xR L _ fails).2];rw [← List.append_assoc,h.all]
theorem zaX {f:yI}{k:Nat}(h:Y6 f k)(e:jB):(jX f e).2.1.length<=64*(k+1):=by
 have h1:=(zcB h e).few;have h2:=(JN h.ok e).2.2.1;unfold qL at h1;rw [h2,N1] at h1;omega
def jP(q:List zB×xp)(r:List UInt8):List zB×xp:=
 match r with
 | []=>q
 |k::d=>if k=109/\(jF d).2=0/\(jF d).1.length=1 then(q.1++(jF d).1,q.2)else(q.1,yB q.2 r)
def RR(l:List (List UInt8)):List zB×xp:=l.foldl jP ([],qj)
theorem zcD(l:List (List UInt8))(r:List UInt8):RR (l++ [r])=jP (RR l) r:=by simp [RR,List.foldl_append]
theorem zgJ(n:zu)(r:List UInt8):j6 n r={n with acc:=(jP (n.acc,n.pax) r).1,pax:=(jP (n.acc,n.pax) r).2} :=by
 unfold j6 jP
 cases r with
 |nil=>rfl
 |cons k d=>simp only;split<;>rfl
theorem QU:∀(l:List (List UInt8)) (n:zu),l.foldl j6 n={n with acc:=(l.foldl jP (n.acc,n.pax)).1,pax:=(l.foldl jP (n.acc,n.pax)).2}
 | [],n=>rfl
 |r::l,n=>by
  rw [List.foldl_cons,QU l,zgJ];simp only [List.foldl_cons]
def zi4(L:zR)(e:jB):Int:=
 if e.kind=2 then e.ver else if e.kind=3 then(if 1<L.fold.eras.length then((L.fold.eras[L.fold.eras.length - 2]?).getD (0,0,0)).2.1 else 0)else 0
def qw(bad:List Int)(L:zR)(x:List UInt8):zR:=if(jx x).2≠0 then L else(j9 L (jx x).1 (bad.contains (zi4 L (jx x).1))).1
def zaY(v:Int)(bad:List Int)(s:StD)(vals:List (List UInt8)):zR:=vals.foldl (qw bad) (zhK v s)
theorem X7(v:Int)(bad:List Int)(s:StD)(vals:List (List UInt8))(x:List UInt8):zaY v bad s (vals++ [x])=qw bad (zaY v bad s vals) x:=by simp [zaY,List.foldl_append]
theorem zaZ(L:zR):L.log<+:(yp L).1.log:=by
 unfold yp
 split
 ·exact U0 _
 ·exact List.prefix_append _ _
theorem zeQ(L:zR)(e:jB)(b:Bool):L.log<+:(j9 L e b).1.log:=by
 unfold j9
 split
 ·exact U0 _
 ·have h:=zaZ (qO (zh9 L (jX L.fold e) b) (jX L.fold e).2.1)
  have h2:(qO (zh9 L (jX L.fold e) b) (jX L.fold e).2.1).log=L.log:=(xR L _ b).2;rw [h2] at h;exact h
theorem zcE(bad:List Int)(L:zR)(x:List UInt8):L.log<+:(qw bad L x).log:=by
 unfold qw
 split
 ·exact U0 _
 ·exact zeQ _ _ _
theorem za0(v:Int)(bad:List Int)(s:StD)(a b:List (List UInt8)):(zaY v bad s a).log<+:(zaY v bad s (a++b)).log:=by
 induction b generalizing a with
 |nil=>rw [List.append_nil];exact U0 _
 |cons x b ih=>
  have h1:=zcE bad (zaY v bad s a) x;rw [← X7] at h1;have h2:=ih (a++ [x]);rw [List.append_assoc] at h2;exact h1.trans h2
def xt(n:zu)(s:StD)(known:List (Int×List UInt8))(vals:List (List UInt8)):Prop:=
 vals.length=n.applied/\n.loc=zaY n.version n.bad s vals/\∀(j:Nat)(x:List UInt8),vals[j]?=some x->zK ((j:Int)+1) known=some x
structure xu(n m:zu):Prop where
 id:m.id=n.id
 version:m.version=n.version
 bad:m.bad=n.bad
 store:m.store=n.store
 pax:m.pax=n.pax
 acc:m.acc=n.acc
 down:m.down=n.down
theorem xu.refl(n:zu):xu n n:=⟨rfl,rfl,rfl,rfl,rfl,rfl,rfl⟩
theorem xu.trans {a b c:zu}(h:xu a b)(k:xu b c):xu a c:=⟨k.id.trans h.id,k.version.trans h.version,k.bad.trans h.bad,k.store.trans h.store,k.pax.trans h.pax,k.acc.trans h.acc,k.down.trans h.down⟩
theorem vy:∀(k:Nat)(n:zu),xu n (jZ k n)/\(jZ k n).loc=n.loc/\(jZ k n).applied=n.applied
 |0,n=>⟨xu.refl n,rfl,rfl⟩
 |k+1,n=>by
  unfold jZ
  split
  ·exact⟨xu.refl n,rfl,rfl⟩
  ·rename_i m _
   split
   ·have h:=vy k {n with pool:=(zgs n.pool m).1,offered:=n.offered+1}
    exact⟨⟨h.1.id,h.1.version,h.1.bad,h.1.store,h.1.pax,h.1.acc,h.1.down⟩,h.2.1,h.2.2⟩
   ·exact⟨⟨rfl,rfl,rfl,rfl,rfl,rfl,rfl⟩,rfl,rfl⟩
theorem Yn(n:zu)(e:jB):xu n (xw n e).1/\(xw n e).1.loc=(j9 n.loc e (n.bad.contains (zi4 n.loc e))).1/\(xw n e).1.applied=n.applied:=by
 unfold xw;simp only;have h:=vy (n.acc.length+1) {n with loc:=(j9 n.loc e (n.bad.contains (xO n e))).1,wanted:=if vE (j9 n.loc e (n.bad.contains (xO n e))).1.fold.eras=vE n.loc.fold.eras then n.wanted else 0,pool:=QM (QM n.pool (j9 n.loc e (n.bad.contains (xO n e))).2.1) (j9 n.loc e (n.bad.contains (xO n e))).1.held};exact⟨⟨h.1.id,h.1.version,h.1.bad,h.1.store,h.1.pax,h.1.acc,h.1.down⟩,h.2.1,h.2.2⟩
theorem VO(s:StD):∀(k:Nat)(n:zu)(vals:List (List UInt8)),xt n s n.pax.known vals->xu n (jy k n).1/\∃more,xt (jy k n).1 s n.pax.known (vals++more)/\(zK (((vals++more).length:Int)+1) n.pax.known=none∨more.length=k)
 |0,n,vals,h=>⟨xu.refl n,[],by simpa [jy] using h,.inr rfl⟩
 |k+1,n,vals,h=>by
  unfold jy
  cases hl:zK ((n.applied:Int)+1) n.pax.known with
  |none=>exact⟨xu.refl n,[],by simpa using h,.inl (by simp only [List.append_nil];rw [h.1];exact hl)⟩
  |some x=>
   simp only
   have step:∀m:zu,xu n m->m.loc=qw n.bad n.loc x->m.applied=n.applied+1->xt m s m.pax.known (vals++ [x]):=λm hs hloc happ=>by
    refine⟨by rw [N1,U2,happ,h.1],?_,λj y hj=>?_⟩
    ·rw [hs.version,hs.bad,X7,← h.2.1];exact hloc
    ·rw [hs.pax]
     rcases Nat.lt_or_ge j vals.length with hlt|hge
     ·rw [U8 hlt] at hj;exact h.2.2 j y hj
     ·rw [U6 hge] at hj
      have:j=vals.length:=by
       have:=(N6.1 hj).1;simp at this;omega
      subst this;simp at hj;subst hj
      rw [h.1];exact hl
   have go:∀m:zu,xu n m->xt m s m.pax.known (vals++ [x])->xu n (jy k m).1/\∃more,xt (jy k m).1 s n.pax.known (vals++more)/\(zK (((vals++more).length:Int)+1) n.pax.known=none∨more.length=k+1):=λm hs ha=>by
    obtain⟨h1,more,h2,h3⟩:=VO s k m (vals++ [x]) ha;rw [hs.pax] at h2 h3;refine⟨hs.trans h1,[x] ++more,by rw [← List.append_assoc];exact h2,?_⟩;rw [← List.append_assoc]
    rcases h3 with h3|h3
    ·exact .inl h3
    ·exact .inr (by simp;omega)
   split
   ·rename_i hd
    refine go _ ⟨rfl,rfl,rfl,rfl,rfl,rfl,rfl⟩ (step _ ⟨rfl,rfl,rfl,rfl,rfl,rfl,rfl⟩ ?_ rfl);unfold qw;rw [if_pos hd]
   ·rename_i hd
    have he:=Yn {n with applied:=n.applied+1} (jx x).1;have hs:xu n (xw {n with applied:=n.applied+1} (jx x).1).1:=⟨he.1.id,he.1.version,he.1.bad,he.1.store,he.1.pax,he.1.acc,he.1.down⟩;refine go _ hs (step _ hs ?_ he.2.2);unfold qw;rw [if_neg hd];exact he.2.1
def yj(known:List (Int×List UInt8)):Prop:=∀i x,zK i known=some x->1<=i/\i<=10000
theorem Z7 {p:xp}(i:Int)(x:List UInt8):(∀j y,zK j p.known=some y->zK j (zV p i x).1.known=some y)/\(yj p.known->yj (zV p i x).1.known)/\(zV p i x).1.votes=p.votes:=by
 unfold zV
 by_cases h1:zP i=false∨4000<x.length
 ·rw [if_pos h1];exact⟨λ_ _ h=>h,λh=>h,rfl⟩
 ·rw [if_neg h1]
  have hi:zP i=true:=by
   cases hi:zP i
   ·exact absurd (.inl hi) h1
   ·rfl
  cases hl:zK i p.known with
  |some y=>simp only;split<;>exact⟨λ_ _ h=>h,λh=>h,rfl⟩
  |none=>
   refine⟨λj y h=>?_,λh j y hj=>?_,rfl⟩
   ·show zK j (put i x p.known)=some y
    rw [xA]
    split
    ·rename_i e;subst e;rw [hl] at h;cases h
    ·exact h
   ·have hj':zK j (put i x p.known)=some y:=hj
    rw [xA] at hj'
    split at hj'
    ·rename_i e;subst e;exact qB hi
    ·exact h j y hj'
theorem zeR(kind:UInt8)(v:jl)(b:Nat)(x:List UInt8):v.1<=(xM kind v b x).1:=by
 unfold xM
 split<;>exact Nat.le_max_left _ _
theorem za1(p:xp)(r:List UInt8):(∀j y,zK j p.known=some y->zK j (yB p r).known=some y)/\(yj p.known->yj (yB p r).known)/\∀i,(zO p i).1<=(zO (yB p r) i).1:=by
 unfold yB
 cases jA r with
 |none=>exact⟨λ_ _ h=>h,λh=>h,λ_=>N0 _⟩
 |some q=>
  obtain⟨k,i,b,x⟩:=q;simp only
  split
  ·have h:=Z7 (p:=p) i x
   exact⟨h.1,h.2.1,λj=>by unfold zO;rw [h.2.2];exact N0 _⟩
  ·split
   ·exact⟨λ_ _ h=>h,λh=>h,λ_=>N0 _⟩
   ·refine⟨λ_ _ h=>h,λh=>h,λj=>?_⟩
    show _<=((zK j (put i _ p.votes)).getD (0,0,[])).1
    rw [xA]
    split
    ·rename_i e;subst e;exact zeR _ _ _ _
    ·exact N0 _
theorem JP(q:List zB×xp)(r:List UInt8):q.1<+:(jP q r).1/\(∀j y,zK j q.2.known=some y->zK j (jP q r).2.known=some y)/\(yj q.2.known->yj (jP q r).2.known)/\∀i,(zO q.2 i).1<=(zO (jP q r).2 i).1:=by
 unfold jP
 cases r with
 |nil=>exact⟨U0 _,λ_ _ h=>h,λh=>h,λ_=>N0 _⟩
 |cons k d=>
  simp only
  split
  ·exact⟨List.prefix_append _ _,λ_ _ h=>h,λh=>h,λ_=>N0 _⟩
  ·exact⟨U0 _,za1 _ _⟩
theorem zif(l:List (List UInt8)):∀(m:List (List UInt8)),(RR l).1<+:(RR (l++m)).1/\(∀j y,zK j (RR l).2.known=some y->zK j (RR (l++m)).2.known=some y)/\∀i,(zO (RR l).2 i).1<=(zO (RR (l++m)).2 i).1:=by
 intro m
 induction m generalizing l with
 |nil=>rw [List.append_nil];exact⟨U0 _,λ_ _ h=>h,λ_=>N0 _⟩
 |cons r m ih=>
  have h1:=JP (RR l) r;rw [← zcD] at h1;have h2:=ih (l++ [r]);rw [List.append_assoc] at h2;exact⟨h1.1.trans h2.1,λj y h=>h2.2.1 j y (h1.2.1 j y h),λi=>Nat.le_trans (h1.2.2.2 i) (h2.2.2 i)⟩
theorem QV(l:List (List UInt8)):yj (RR l).2.known:=by
 suffices h:∀(l:List (List UInt8)) (q:List zB×xp),yj q.2.known->yj (l.foldl jP q).2.known from h l _ (λi x hx=>by simp [qj,zK] at hx)
 intro l
 induction l with
 |nil=>intro q h;exact h
 |cons r l ih=>intro q h;exact ih _ ((JP q r).2.2.1 h)
structure QW(s:StD)(n:zu)(l:List (List UInt8)):Prop where
 kept:zeJ n.store l
 up:n.down=false->n.store.crashed=false/\n.acc=(RR l).1/\n.pax=(RR l).2
 acc:n.acc<+:(RR l).1
 loc:∃vals,xt n s (RR l).2.known vals
def zig(id:Int)(acc:List zB):Prop:=∀(j:Nat)(m:zB),acc[j]?=some m->m.1=(id,j+1)
structure vC(s:StD)(n:zu)(l:List (List UInt8))(m:zu)(l':List (List UInt8)):Prop where
 inv:QW s m l'
 recs:l<+:l'
 acc:n.acc<+:m.acc
 log:n.loc.log<+:m.loc.log
 ids:zig n.id (RR l).1->zig n.id (RR l').1
 same:m.id=n.id/\m.version=n.version/\m.bad=n.bad
theorem vC.refl {s:StD}{n:zu}{l:List (List UInt8)}(h:QW s n l):vC s n l n l:=⟨h,U0 _,U0 _,U0 _,λh=>h,rfl,rfl,rfl⟩
theorem vC.trans {s:StD}{a b c:zu}{l m k:List (List UInt8)}(h:vC s a l b m)(g:vC s b m c k):vC s a l c k:=
 ⟨g.inv,h.recs.trans g.recs,h.acc.trans g.acc,h.log.trans g.log,(λx=>by have:=g.ids (by rw [h.same.1];exact h.ids x);rwa [h.same.1] at this),g.same.1.trans h.same.1,g.same.2.1.trans h.same.2.1,g.same.2.2.trans h.same.2.2⟩
theorem zih {l:List (List UInt8)}{k:UInt8}{d:List UInt8}(hk:k≠109):RR (l++ [k::d])=((RR l).1,yB (RR l).2 (k::d)):=by
 rw [zcD];unfold jP;simp only;rw [if_neg (λh=>hk h.1)]
theorem xt.more {n m:zu}{s:StD}{vals:List (List UInt8)}{l:List (List UInt8)}(h:xt n s (RR l).2.known vals)(k:List (List UInt8))(h1:m.applied=n.applied)(h2:m.loc=n.loc)(h3:m.version=n.version)(h4:m.bad=n.bad):xt m s (RR (l++k)).2.known vals:=
 ⟨h.1.trans h1.symm,by rw [h2,h3,h4];exact h.2.1,λj x hj=>(zif l k).2.1 _ _ (h.2.2 j x hj)⟩
theorem QW.same {s:StD}{n m:zu}{l:List (List UInt8)}(h:QW s n l)(hs:xu n m)(h1:m.applied=n.applied)(h2:m.loc=n.loc):QW s m l:=by
 obtain⟨vals,hv⟩:=h.loc;refine⟨by rw [hs.store];exact h.kept,λhd=>?_,by rw [hs.acc];exact h.acc,vals,?_⟩
 ·rw [hs.store,hs.acc,hs.pax];exact h.up (by rw [← hs.down];exact hd)
 ·exact⟨hv.1.trans h1.symm,by rw [h2,hs.version,hs.bad];exact hv.2.1,hv.2.2⟩
theorem VP {s:StD}{n:zu}{l:List (List UInt8)}(h:QW s n l)(hd:n.down=false)(p:xp)(k:UInt8)(d:List UInt8)(hk:k≠109)(hp:p=yB n.pax (k::d)):
 ∃l',vC s n l (yg {n with pax:=p} true (k::d)).1 l'/\((yg {n with pax:=p} true (k::d)).2=0->l'=l++ [k::d] /\(yg {n with pax:=p} true (k::d)).1.down=false)/\((yg {n with pax:=p} true (k::d)).2≠0->(yg {n with pax:=p} true (k::d)).1.down=true):=by
 obtain⟨hc,ha,hx⟩:=h.up hd;obtain⟨vals,hv⟩:=h.loc;have hRR:=zih (l:=l) (d:=d) hk;unfold yg;simp only
 rcases X5 h.kept (k::d)with⟨h1, -,h3,h4⟩|⟨h1,h2,h3⟩|⟨h1,h2⟩
 ·refine⟨l++ [k::d],⟨⟨h4,λ_=>⟨h3,?_,?_⟩,?_,vals,hv.more _ rfl rfl rfl rfl⟩,List.prefix_append _ _,U0 _,U0 _,(λx=>by rw [hRR];exact x),rfl,rfl,rfl⟩,λ_=>⟨rfl,?_⟩,λh=>absurd h1 h⟩
  ·show n.acc=_;rw [hRR];exact ha
  ·show p=_;rw [hRR,hp,hx]
  ·show n.acc<+:_;rw [hRR];exact h.acc
  ·rw [h1,hd];rfl
 ·have hdn:(n.down||decide ((jb n.store (k::d)).2=31)||(true && decide ((jb n.store (k::d)).2≠0)))=true:=by rw [h1];simp
  have hup:∀l'',((n.down||decide ((jb n.store (k::d)).2=31)||(true && decide ((jb n.store (k::d)).2≠0)))=false->(jb n.store (k::d)).1.crashed=false/\n.acc=(RR l'').1/\p=(RR l'').2):=λl'' h=>by rw [hdn] at h;cases h
  rcases h3 with h3|h3
  ·exact⟨l,⟨⟨h3,hup l,h.acc,vals,hv⟩,U0 _,U0 _,U0 _,(λh=>h),rfl,rfl,rfl⟩,λh=>by rw [h1] at h;simp at h,λ_=>hdn⟩
  ·refine⟨l++ [k::d],⟨⟨h3,hup _,?_,vals,hv.more _ rfl rfl rfl rfl⟩,List.prefix_append _ _,U0 _,U0 _,(λx=>by rw [hRR];exact x),rfl,rfl,rfl⟩,λh=>by rw [h1] at h;simp at h,λ_=>hdn⟩
   show n.acc<+:_;rw [hRR];exact h.acc
 ·have hdn:(n.down||decide ((jb n.store (k::d)).2=31)||(true && decide ((jb n.store (k::d)).2≠0)))=true:=by rw [h1];simp
  refine⟨l,⟨⟨by show zeJ (jb n.store (k::d)).1 l;rw [h2];exact h.kept,λh=>?_,h.acc,vals,hv⟩,U0 _,U0 _,U0 _,(λh=>h),rfl,rfl,rfl⟩,λh=>by rw [h1] at h;simp at h,λ_=>hdn⟩;have h':(n.down||decide ((jb n.store (k::d)).2=31)||(true && decide ((jb n.store (k::d)).2≠0)))=false:=h;rw [hdn] at h';cases h'
theorem za2 {s:StD}{n:zu}{l:List (List UInt8)}(h:QW s n l)(i:Int)(b:Nat)(hb:b<18446744073709551616):∃l',vC s n l (j4 n i b).1 l'/\((j4 n i b).2.2=0->b<=(zO (RR l').2 i).1):=by
 unfold j4
 by_cases hd:n.down=false
 ·rw [if_neg (by rw [hd];simp)]
  by_cases he:(zD n.pax i b).2.2.2≠0
  ·rw [if_pos he];exact⟨l,vC.refl h,λh=>absurd h he⟩
  ·rw [if_neg he]
   obtain⟨h1,h2,h3,h4,h5,h6⟩:=QS hb (Decidable.not_not.1 he);have hrec:(zD n.pax i b).2.2.1=112::(le4 (i.toNat % 4294967296)++le8 b):=by rw [h2];rfl
   obtain⟨l',k1,k2,k3⟩:=VP h hd (zD n.pax i b).1 112 (le4 (i.toNat % 4294967296)++le8 b) (by decide) (by rw [← hrec];exact h1.symm);rw [← hrec] at k1 k2 k3
   split
   ·rename_i hq;exact⟨l',k1,λh=>absurd h hq⟩
   ·rename_i hq
    refine⟨l',k1,λ_=>?_⟩;have hq':=k2 (Decidable.not_not.1 hq);have hp:=(k1.inv.up hq'.2).2.2;have hp':(zD n.pax i b).1=(RR l').2:=hp;rw [← hp',h6]
    show b<=((zK i (put i _ n.pax.votes)).getD (0,0,[])).1
    rw [xA,if_pos rfl];exact N0 _
 ·rw [if_pos (by simpa using hd)]
  exact⟨l,vC.refl h,λh=>by simp at h⟩
theorem za3 {s:StD}{n:zu}{l:List (List UInt8)}(h:QW s n l)(i:Int)(b:Nat)(x:List UInt8)(hb:b<18446744073709551616):∃l',vC s n l (JI n i b x).1 l':=by
 unfold JI
 by_cases hd:n.down=false
 ·rw [if_neg (by rw [hd];simp)]
  by_cases he:(vJ n.pax i b x).2.2≠0
  ·rw [if_pos he];exact⟨l,vC.refl h⟩
  ·rw [if_neg he]
   obtain⟨h1, -, -, -, -, -,h2⟩:=zeM hb (Decidable.not_not.1 he);have hrec:(vJ n.pax i b x).2.1=118::(le4 (i.toNat % 4294967296)++(le8 b++x)):=by rw [h2];rfl
   obtain⟨l',k1, -, -⟩:=VP h hd (vJ n.pax i b x).1 118 (le4 (i.toNat % 4294967296)++(le8 b++x)) (by decide) (by rw [← hrec];exact h1.symm);rw [← hrec] at k1;exact⟨l',k1⟩
 ·rw [if_pos (by simpa using hd)]
  exact⟨l,vC.refl h⟩
theorem X8 {s:StD}{n:zu}{l:List (List UInt8)}(h:QW s n l)(hd:n.down=false)(k:Nat):vC s n l (jy k n).1 l:=by
 obtain⟨hc,ha,hx⟩:=h.up hd;obtain⟨vals,hv⟩:=h.loc;have hv':xt n s n.pax.known vals:=by rw [hx];exact hv
 obtain⟨hs,more,h1, -⟩:=VO s k n vals hv';rw [hx] at h1;refine⟨⟨by rw [hs.store];exact h.kept,λ_=>by rw [hs.store,hs.acc,hs.pax];exact⟨hc,ha,hx⟩,by rw [hs.acc];exact h.acc,_,h1⟩,U0 _,by rw [hs.acc];exact U0 _,?_,λh=>h,hs.id,hs.version,hs.bad⟩;rw [h1.2.1,hv.2.1,hs.version,hs.bad];exact za0 _ _ _ _ _
theorem Yo {s:StD}{n:zu}{l:List (List UInt8)}(h:QW s n l)(i:Int)(x:List UInt8):∃l',vC s n l (qz n i x).1 l':=by
 unfold qz
 by_cases hd:n.down=false
 ·rw [if_neg (by rw [hd];simp)]
  by_cases he:(zV n.pax i x).2.2≠0
  ·rw [if_pos he];exact⟨l,vC.refl h⟩
  ·rw [if_neg he]
   by_cases hr:(zV n.pax i x).2.1=[]
   ·rw [if_pos hr]
    have hsame:(zV n.pax i x).1=n.pax:=zeN (.inr hr);rw [hsame];exact⟨l,X8 h hd _⟩
   ·rw [if_neg hr]
    obtain⟨h1, -, -, -, -, -,h2⟩:=zcA (Decidable.not_not.1 he) hr;have hrec:(zV n.pax i x).2.1=100::(le4 (i.toNat % 4294967296)++x):=by rw [h2];rfl
    obtain⟨l',k1,k2,k3⟩:=VP h hd (zV n.pax i x).1 100 (le4 (i.toNat % 4294967296)++x) (by decide) (by rw [← hrec];exact h1.symm);rw [← hrec] at k1 k2 k3
    generalize yg {n with pax:=(zV n.pax i x).1} true (zV n.pax i x).2.1=q at*
    by_cases hq:q.2≠0
    ·exact⟨l',by simp only [if_pos hq];exact k1⟩
    ·have hq':=k2 (Decidable.not_not.1 hq)
     exact⟨l',by simp only [if_neg hq];exact k1.trans (X8 k1.inv hq'.2 _)⟩
 ·rw [if_pos (by simpa using hd)]
  exact⟨l,vC.refl h⟩
theorem zeS {m:zB}(h:zF m=true)(q:List zB×xp):jP q ([109] ++(yD [m]).1)=(q.1++ [m],q.2):=by
 have hp:=zdW h;have hu:=zcC (l:=[m]) (by rw [hp])
 show jP q (109::(yD [m]).1)=_
 unfold jP;simp only;rw [hu,if_pos (by simp)]
theorem XG {s:StD}{n:zu}{l:List (List UInt8)}(h:QW s n l)(d:List UInt8):
 ∃l',vC s n l (z6 n d).1 l'/\((z6 n d).2.2=0->(z6 n d).2.1.1=(n.id,n.acc.length+1)/\(z6 n d).1.acc=n.acc++ [(z6 n d).2.1] /\n.down=false):=by
 unfold z6
 by_cases hd:n.down=false
 ·rw [if_neg (by rw [hd];simp)]
  obtain⟨hc,ha,hx⟩:=h.up hd;obtain⟨vals,hv⟩:=h.loc
  by_cases hr:zF ((n.id,n.acc.length+1),d)=false
  ·rw [if_pos hr];exact⟨l,vC.refl h,λh=>by simp at h⟩
  ·rw [if_neg hr]
   have hr':zF ((n.id,n.acc.length+1),d)=true:=by simpa using hr
   have hrep:=zeS hr' (RR l)
   generalize hmm:((n.id,n.acc.length+1),d)=m at*
   generalize [109] ++(yD [m]).1=rec at*
   have hRR:RR (l++ [rec])=((RR l).1++ [m],(RR l).2):=by rw [zcD];exact hrep
   have hids:zig n.id (RR l).1->zig n.id (RR (l++ [rec])).1:=λx j y hj=>by
    rw [hRR] at hj;have hj':((RR l).1++ [m])[j]?=some y:=hj
    rcases Nat.lt_or_ge j (RR l).1.length with hlt|hge
    ·rw [U8 hlt] at hj';exact x j y hj'
    ·rw [U6 hge] at hj'
     have hj2:j=(RR l).1.length:=by
      have:=(N6.1 hj').1;simp at this;omega
     subst hj2;simp at hj'
     rw [← hj',← hmm,ha]
   unfold yg;simp only [Bool.false_and,Bool.or_false]
   rcases X5 h.kept rec with⟨h1, -,h3,h4⟩|⟨h1,h2,h3⟩|⟨h1,h2⟩
   ·rw [if_neg (by rw [h1];simp)]
    have ho:=vy (n.acc.length+1) {n with store:=(jb n.store rec).1,down:=n.down||decide ((jb n.store rec).2=31),acc:=n.acc++ [m] };have hdn:(n.down||decide ((jb n.store rec).2=31))=false:=by rw [h1,hd];rfl
    have hinv:QW s {n with store:=(jb n.store rec).1,down:=n.down||decide ((jb n.store rec).2=31),acc:=n.acc++ [m] } (l++ [rec]):=
     ⟨h4,λ_=>⟨h3,by show n.acc++ [m]=_;rw [hRR,ha],by show n.pax=_;rw [hRR,hx]⟩,by show n.acc++ [m] <+:_;rw [hRR,ha];exact U0 _,vals,hv.more _ rfl rfl rfl rfl⟩
    refine⟨l++ [rec],⟨hinv.same ho.1 ho.2.2 ho.2.1,List.prefix_append _ _,?_,?_,hids,ho.1.id,ho.1.version,ho.1.bad⟩,λ_=>⟨?_,ho.1.acc,hd⟩⟩
    ·rw [ho.1.acc];exact List.prefix_append _ _
    ·rw [ho.2.1];exact U0 _
    ·show m.1=_;rw [← hmm]
   ·rw [if_pos (by rw [h1];simp)]
    have hdn:(n.down||decide ((jb n.store rec).2=31))=true:=by rw [h1];simp
    have hup:∀l'',((n.down||decide ((jb n.store rec).2=31))=false->(jb n.store rec).1.crashed=false/\n.acc=(RR l'').1/\n.pax=(RR l'').2):=λl'' h=>by rw [hdn] at h;cases h
    rcases h3 with h3|h3
    ·exact⟨l,⟨⟨h3,hup l,h.acc,vals,hv⟩,U0 _,U0 _,U0 _,(λh=>h),rfl,rfl,rfl⟩,λh=>by rw [h1] at h;simp at h⟩
    ·refine⟨l++ [rec],⟨⟨h3,hup _,?_,vals,hv.more _ rfl rfl rfl rfl⟩,List.prefix_append _ _,U0 _,U0 _,hids,rfl,rfl,rfl⟩,λh=>by rw [h1] at h;simp at h⟩
     show n.acc<+:_;rw [hRR];exact h.acc.trans (List.prefix_append _ _)
   ·rw [if_pos (by rw [h1];simp)]
    have hdn:(n.down||decide ((jb n.store rec).2=31))=n.down:=by rw [h1];simp
    refine⟨l,⟨⟨by show zeJ (jb n.store rec).1 l;rw [h2];exact h.kept,λ_=>?_,h.acc,vals,hv⟩,U0 _,U0 _,U0 _,(λh=>h),rfl,rfl,rfl⟩,λh=>by rw [h1] at h;simp at h⟩
    show(jb n.store rec).1.crashed=false/\_;rw [h2];exact⟨hc,ha,hx⟩
 ·rw [if_pos (by simpa using hd)]
  exact⟨l,vC.refl h,λh=>by simp at h⟩
theorem zgK {s:StD}{n:zu}{l:List (List UInt8)}(h:QW s n l)(v:Int):vC s n l (Z6 n v).1 l:=by
 unfold Z6
 split
 ·exact vC.refl h
 ·split
  ·exact vC.refl h
  ·exact⟨h.same ⟨rfl,rfl,rfl,rfl,rfl,rfl,rfl⟩ rfl rfl,U0 _,U0 _,U0 _,(λh=>h),rfl,rfl,rfl⟩
theorem zii {s:StD}{n:zu}{l:List (List UInt8)}(h:QW s n l)(k:Int):vC s n l (zcr n k).1 l:=by
 unfold zcr
 split
 ·exact vC.refl h
 ·have hk:=zie h.kept k
  obtain⟨vals,hv⟩:=h.loc;exact⟨⟨hk.1,λhd=>⟨hk.2.trans (h.up hd).1,(h.up hd).2⟩,h.acc,vals,hv⟩,U0 _,U0 _,U0 _,(λh=>h),rfl,rfl,rfl⟩
theorem zeT {s:StD}{n:zu}{l:List (List UInt8)}(h:QW s n l):vC s n l (xP n).1 l:=by
 unfold xP
 split
 ·exact vC.refl h
 ·obtain⟨vals,hv⟩:=h.loc
  exact⟨⟨h.kept,(λhd=>absurd hd (by simp)),h.acc,vals,hv⟩,U0 _,U0 _,U0 _,(λh=>h),rfl,rfl,rfl⟩
theorem za4 {known:List (Int×List UInt8)}(hk:yj known){a b:List (List UInt8)}(ha:∀(j:Nat)(x:List UInt8),a[j]?=some x->zK ((j:Int)+1) known=some x)(hb:∀(j:Nat)(x:List UInt8),b[j]?=some x->zK ((j:Int)+1) known=some x)
 (he:zK ((b.length:Int)+1) known=none∨b.length=10001):a<+:b:=by
 have hlen:a.length<=b.length:=by
  rcases Nat.lt_or_ge b.length a.length with h|h
  ·exfalso
   obtain⟨x,hx⟩:∃x,a[b.length]?=some x:=⟨_,N3 h⟩;have h1:=ha _ _ hx
   rcases he with he|he
   ·rw [he] at h1;cases h1
   ·have:=hk _ _ h1;omega
  ·exact h
 rw [List.prefix_iff_eq_take]
 apply List.ext_getElem?
 intro j;rw [List.getElem?_take]
 split
 ·rename_i hj
  obtain⟨x,hx⟩:∃x,a[j]?=some x:=⟨_,N3 hj⟩;obtain⟨y,hy⟩:∃y,b[j]?=some y:=⟨_,N3 (by omega)⟩;have h1:=ha _ _ hx;have h2:=hb _ _ hy;rw [h1] at h2;cases h2
  rw [hx,hy]
 ·rename_i hj;rw [List.getElem?_eq_none (by omega)]
theorem za5 {s:StD}{n:zu}{l:List (List UInt8)}(h:QW s n l):vC s n l (yN n s) l/\(yN n s).down=false:=by
 obtain⟨r1,r2,r3⟩:=zaR h.kept;obtain⟨vals,hv⟩:=h.loc;unfold yN;simp only;rw [r1,QU]
 generalize hm:({qk {n with store:=(jn n.store).1} s with acc:=(l.foldl jP ((qk {n with store:=(jn n.store).1} s).acc,(qk {n with store:=(jn n.store).1} s).pax)).1,pax:=(l.foldl jP ((qk {n with store:=(jn n.store).1} s).acc,(qk {n with store:=(jn n.store).1} s).pax)).2} :zu)=m
 have m1:m.acc=(RR l).1:=by rw [← hm];rfl
 have m2:m.pax=(RR l).2:=by rw [← hm];rfl
 have m3:m.store=(jn n.store).1:=by rw [← hm];rfl
 have m4:m.id=n.id/\m.version=n.version/\m.bad=n.bad:=by rw [← hm];exact⟨rfl,rfl,rfl⟩
 have hA:xt m s m.pax.known []:=⟨by rw [← hm];rfl,by rw [← hm];rfl,λj x hj=>by simp at hj⟩;obtain⟨hs,more,h1,h2⟩:=VO s 10001 m [] hA;rw [List.nil_append] at h1 h2;rw [m2] at h1 h2;have ho:=vy ((jy 10001 m).1.acc.length+1) (jy 10001 m).1
 generalize jZ ((jy 10001 m).1.acc.length+1) (jy 10001 m).1=q at*
 have hq:xu m q:=hs.trans ho.1;have hAq:xt q s (RR l).2.known more:=⟨h1.1.trans ho.2.2.symm,by rw [ho.2.1,h1.2.1,ho.1.version,ho.1.bad],h1.2.2⟩;have hpre:=za4 (QV l) hv.2.2 h1.2.2 h2;refine⟨⟨⟨by show zeJ q.store l;rw [hq.store,m3];exact r2,λ_=>⟨by show q.store.crashed=false;rw [hq.store,m3];exact r3,by show q.acc=_;rw [hq.acc,m1],by show q.pax=_;rw [hq.pax,m2]⟩,by show q.acc<+:_;rw [hq.acc,m1];exact U0 _,more,hAq⟩,U0 _,?_,?_,(λh=>h),hq.id.trans m4.1,hq.version.trans m4.2.1,hq.bad.trans m4.2.2⟩,by first|exact rfl|exact trivial⟩
 ·show n.acc<+:q.acc;rw [hq.acc,m1];exact h.acc
 ·show n.loc.log<+:q.loc.log
  rw [hAq.2.1,hv.2.1,hq.version,hq.bad,m4.2.1,m4.2.2];obtain⟨t,ht⟩:=hpre;rw [← ht];exact za0 _ _ _ _ _
structure zjX where
 what:Int
 inst:Int
 b:Nat
 s:List UInt8
def za6(x:zjX):List UInt8:=if x.b=77 then List.replicate 1100 0 else x.s.take 300
def za7(x:zjX):Nat:=(x.what % 18446744073709551616).toNat % 9
def zcF(s:StD)(n:zu)(x:zjX):zu:=
 if za7 x=0 then(z6 n (za6 x)).1
 else if za7 x=1 then(j4 n x.inst x.b).1
 else if za7 x=2 then(JI n x.inst x.b (za6 x)).1
 else if za7 x=3 then(qz n x.inst (za6 x)).1
 else if za7 x=4 then(Z6 n x.inst).1
 else if za7 x=5 then(zcr n x.inst).1
 else if za7 x=6 then(xP n).1
 else if za7 x=7 then yN n s
 else if(yt n).2 then(qz n (vO n) (yt n).1).1 else n
theorem za8 {s:StD}{n:zu}{l:List (List UInt8)}(h:QW s n l)(x:zjX)(hb:x.b<18446744073709551616):∃l',vC s n l (zcF s n x) l':=by
 unfold zcF
 split
 ·obtain⟨l',h1, -⟩:=XG h (za6 x);exact⟨l',h1⟩
 split
 ·obtain⟨l',h1, -⟩:=za2 h x.inst x.b hb;exact⟨l',h1⟩
 split
 ·exact za3 h x.inst x.b (za6 x) hb
 split
 ·exact Yo h x.inst (za6 x)
 split
 ·exact⟨l,zgK h _⟩
 split
 ·exact⟨l,zii h _⟩
 split
 ·exact⟨l,zeT h⟩
 split
 ·exact⟨l,(za5 h).1⟩
 split
 ·exact Yo h _ _
 ·exact⟨l,vC.refl h⟩
def zhL(id v cap:Int)(bad:List Int)(s:StD):zu:={id:=id,version:=v,bad:=bad,store:=qP cap,pax:=qj,loc:=zhK v s,pool:=qQ,acc:=[],offered:=0,applied:=0,wanted:=0,down:=false}
theorem zij(id v cap:Int)(bad:List Int)(s:StD):QW s (zhL id v cap bad s) []:=⟨QQ cap,λ_=>⟨rfl,rfl,rfl⟩,U0 _,[],rfl,rfl,λj x hj=>by simp at hj⟩
