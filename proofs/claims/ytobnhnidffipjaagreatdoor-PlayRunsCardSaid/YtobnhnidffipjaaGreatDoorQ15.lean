/- PARTS OF THE PROOF. -/
import Derived.Test.YtobnhnidffipjaaGreatDoorQ11
import Derived.Test.YtobnhnidffipjaaGreatDoorQ14
set_option maxRecDepth 8000
set_option maxHeartbeats 4000000
namespace Go.Proofs.YtobnhnidffipjaaGreatDoor
open Go
def qn:List Nat->List zD->Prop
 |_,[]=>True
 |tk,x::l=>(0<=x.1.1/\x.1.1<=15/\x.1.2=(tk[x.1.1.toNat]?.getD 0)+1/\x.1.2<=4294967294)/\qn (tk.set x.1.1.toNat x.1.2) l
theorem qh {m:zD}(h:zG m=true):0<=m.1.1/\m.1.1<=15/\m.2.length<=1000/\1<=m.1.2/\m.1.2<=4294967294:=by
 simp [zG] at h
 omega
theorem qn.append:∀ {tk:List Nat} {a b:List zD},qn tk a->qn (xY tk a) b->qn tk (a++b)
 |_,[],_,_,h2=>h2
 |_,_::a,_,h,h2=>⟨h.1,qn.append (a:=a) h.2 h2⟩
theorem za1(tk:List Nat)(a b:List zD):xY tk (a++b)=xY (xY tk a) b:=by simp [xY,List.foldl_append]
theorem VP:∀(n:Nat)(ws:List (MId×zD)) (x:zD) (tk:List Nat),tk.length=16->zb7 ws->zG x=true->x.1.2=(tk[x.1.1.toNat]?.getD 0)+1->qn tk (zW n ws x).2
 |0,ws,x,tk,ht,hw,hx,h=>by
  have:=qh hx;exact⟨⟨this.1,this.2.1,h,this.2.2.2.2⟩,trivial⟩
 |n+1,ws,x,tk,ht,hw,hx,h=>by
  have hp:=qh hx;unfold zW
  cases hl:zJ (x.1.1,(x.1.2+1)% 4294967296) (del x.1 ws)with
  |none=>exact⟨⟨hp.1,hp.2.1,h,hp.2.2.2.2⟩,trivial⟩
  |some y=>
   have hy:=(hw.del x.1) _ (xx hl);have hy1:y.1=(x.1.1,(x.1.2+1)% 4294967296):=hy.1;refine⟨⟨hp.1,hp.2.1,h,hp.2.2.2.2⟩,?_⟩;refine VP n (del x.1 ws) y _ (by simpa using ht) (hw.del _) hy.2 ?_;rw [hy1];simp only;rw [List.getElem?_set_self (by omega)];simp only [Option.getD_some];omega
theorem za2 {b:vl}(hok:vO b)(m:zD):qn b.tk (xG b m).2.1/\(xG b m).1.tk=xY b.tk (xG b m).2.1:=by
 unfold xG
 split
 ·exact⟨trivial,rfl⟩
 ·rename_i hr
  have hr':zG m=true:=by simpa using hr
  have hp:=qh hr'
  split
  ·split<;>exact⟨trivial,rfl⟩
  ·rename_i hn
   have hn':m.1.2=Js b m.1.1:=by simpa using hn
   refine⟨VP _ _ _ _ hok.sixteen hok.keys hr' ?_,rfl⟩;unfold Js at hn';rw [if_pos (by simp [vm];omega)] at hn'
   have hm:b.tk[m.1.1.toNat]?.getD 0<=4294967294:=by
    cases h:b.tk[m.1.1.toNat]? with
    |none=>simp
    |some n=>exact hok.most n (List.mem_of_getElem? h)
   omega
theorem Zi {b:vl}(hok:vO b):∀(l:List zD),qn b.tk (jd b l).2/\(jd b l).1.tk=xY b.tk (jd b l).2
 | []=>⟨trivial,rfl⟩
 |m::l=>by
  have h1:=za2 hok m;have h2:=Zi (zgq hok m) l;simp only [jd];refine⟨h1.1.append (by rw [← h1.2];exact h2.1),?_⟩;rw [h2.2,h1.2,za1]
theorem JJ {f:yG}(hok:vO f.book)(e:jF):qn f.book.tk (j0 f e).2.1/\(j0 f e).1.book.tk=xY f.book.tk (j0 f e).2.1/\(j0 f e).1.book.log=f.book.log++(j0 f e).2.1/\(e.kind≠1->(j0 f e).2.1=[]):=by
 unfold j0
 split
 ·exact⟨trivial,rfl,by simp,λ_=>rfl⟩
 ·split
  ·exact⟨trivial,rfl,by simp,λ_=>rfl⟩
  ·split
   ·rename_i hk
    have h1:=Zi hok e.msgs;exact⟨h1.1,h1.2,(qq hok e.msgs).2.2,λh=>absurd hk h⟩
   ·split
    ·split
     ·exact⟨trivial,rfl,by simp,λ_=>rfl⟩
     ·exact⟨trivial,rfl,by simp [vE],λ_=>rfl⟩
    ·split
     ·exact⟨trivial,rfl,by simp,λ_=>rfl⟩
     ·exact⟨trivial,rfl,by simp [vE],λ_=>rfl⟩
theorem zeX {i:Int}(h0:0<=i)(h:i<=255):((UInt8.ofNat (i % 256).toNat).toNat:Int)=i:=by
 rw [UInt8.toNat_ofNat'];omega
theorem JK(m:zD):(jo m).length=9+m.2.length:=by
 unfold jo;simp [VJ];omega
theorem zeY {m:zD}(h:zG m=true)(rest:List UInt8):vI (jo m++rest)=(m,9+m.2.length):=by
 obtain⟨⟨i,c⟩,d⟩:=m;have hp:=qh h;simp only at hp;have hl:=JK ((i,c),d);simp only at hl;have h1:(jo ((i,c),d)++rest).head?.getD 0=UInt8.ofNat (i % 256).toNat:=rfl;have h2:((jo ((i,c),d)++rest).drop 1).take 4=le4 c:=rfl;have h3:((jo ((i,c),d)++rest).drop 5).take 4=le4 d.length:=rfl;have h4:(jo ((i,c),d)++rest).drop 9=d++rest:=rfl;have hb:=zeX hp.1 (by omega);have hc:c % 4294967296=c:=by omega
 have hd:d.length % 4294967296=d.length:=by omega
 have htk:(d++rest).take d.length=d:=by rw [List.take_left'];rfl
 unfold vI;rw [h1,h2,h3,h4,xy,xy,hc,hd,hb,htk,if_neg (by rw [N1];omega),if_neg (by rw [N1];omega),if_neg (by rw [h];simp)]
theorem YO:∀(l:List zD),l.all zG=true->yI l.length (l.flatMap jo)=some l
 | [],_=>rfl
 |m::l,h=>by
  simp only [List.all_cons,Bool.and_eq_true] at h;have hf:=zeY h.1 (l.flatMap jo);have hl:=JK m;have hd:(jo m++l.flatMap jo).drop (9+m.2.length)=l.flatMap jo:=by rw [List.drop_left'];omega
  show yI (l.length+1) (jo m++l.flatMap jo)=_
  unfold yI;rw [hf];simp only;rw [if_neg (by omega),hd,YO l h.2];rfl
theorem zjG {l:List zD}(h:(yA l).2=0):l.length<=64/\l.all zG=true/\yA l=([UInt8.ofNat (l.length % 256)] ++l.flatMap jo,0):=by
 unfold yA at h⊢
 split at h
 ·simp at h
 ·rename_i h1
  rw [if_neg h1]
  split at h
  ·rename_i h2
   rw [if_pos h2];exact⟨by omega,h2,rfl⟩
  ·simp at h
theorem zcF {l:List zD}(h:(yA l).2=0):jI (yA l).1=(l,0):=by
 obtain⟨h1,h2,h3⟩:=zjG h;rw [h3];unfold jI;have hb:(UInt8.ofNat (l.length % 256)).toNat=l.length:=by rw [UInt8.toNat_ofNat'];omega
 simp only [List.cons_append,List.nil_append];rw [hb,if_neg (by omega),YO l h2]
theorem zd4 {m:zD}(h:zG m=true):yA [m]=([1] ++jo m,0):=by
 unfold yA;rw [if_neg (by simp),if_pos (by simp [h])];simp
theorem zgS {f:yG}{e:jF}(h:(j0 f e).2.2.2≠0):j0 f e=(f,[],false,140):=by
 unfold j0 at h⊢
 split
 ·rfl
 ·rename_i h1
  rw [if_neg h1] at h
  exfalso
  revert h
  repeat' split
  all_goals simp
theorem VQ(L:ja)(e:jF)(fails:Bool):(ye L e fails).1.fold=(j0 L.fold e).1:=by
 unfold ye
 split
 ·rfl
 ·unfold yM zij j5 qE
  repeat' split
  all_goals rfl
theorem xP(L:ja)(R:yG×List zD×Bool×Int)(fails:Bool):(zij L R fails).held=L.held/\(zij L R fails).log=L.log:=by
 unfold zij j5
 split<;>exact⟨rfl,rfl⟩
theorem za3(L:ja):(yM L).1.log++(yM L).1.held=L.log++L.held:=by
 unfold yM
 split<;>simp
theorem za4(L:ja):(yM L).2.length<=L.held.length:=by
 unfold yM
 split<;>simp
structure vQ(L:ja)(k:Nat):Prop where
 fold:Y4 L.fold k
 all:L.log++L.held=L.fold.book.log
theorem vQ.mono {L:ja}{k n:Nat}(h:vQ L k)(hk:k<=n):vQ L n:=⟨h.fold.mono hk,h.all⟩
theorem zje(v:Int)(s:StD):vQ (zhT v s) 0:=⟨zgR v,rfl⟩
theorem vQ.len {L:ja}{k:Nat}(h:vQ L k):L.log.length+L.held.length<=64*k:=by
 have h1:=congrArg List.length h.all;rw [N1] at h1;have h2:=h.fold.few;unfold qC at h2;omega
theorem Q0 {L:ja}{k:Nat}(h:vQ L k)(e:jF)(fails:Bool):vQ (ye L e fails).1 (k+1):=by
 refine⟨by rw [VQ];exact zcE h.fold e,?_⟩;rw [VQ,(JJ h.fold.ok e).2.2.1];unfold ye
 split
 ·rename_i hr
  have:=zgS hr;rw [this];simp only [List.append_nil];exact h.all
 ·rw [za3]
  unfold qE;simp only [(xP L _ fails).1,(xP L _ fails).2];rw [← List.append_assoc,h.all]
theorem za5 {f:yG}{k:Nat}(h:Y4 f k)(e:jF):(j0 f e).2.1.length<=64*(k+1):=by
 have h1:=(zcE h e).few;have h2:=(JJ h.ok e).2.2.1;unfold qC at h1;rw [h2,N1] at h1;omega
def jS(q:List zD×xl)(r:List UInt8):List zD×xl:=
 match r with
 | []=>q
 |k::d=>if k=109/\(jI d).2=0/\(jI d).1.length=1 then(q.1++(jI d).1,q.2)else(q.1,yy q.2 r)
def RR(l:List (List UInt8)):List zD×xl:=l.foldl jS ([],qe)
theorem zcG(l:List (List UInt8))(r:List UInt8):RR (l++ [r])=jS (RR l) r:=by simp [RR,List.foldl_append]
theorem zgT(n:zv)(r:List UInt8):j8 n r={n with acc:=(jS (n.acc,n.pax) r).1,pax:=(jS (n.acc,n.pax) r).2} :=by
 unfold j8 jS
 cases r with
 |nil=>rfl
 |cons k d=>simp only;split<;>rfl
theorem Q1:∀(l:List (List UInt8)) (n:zv),l.foldl j8 n={n with acc:=(l.foldl jS (n.acc,n.pax)).1,pax:=(l.foldl jS (n.acc,n.pax)).2}
 | [],n=>rfl
 |r::l,n=>by
  rw [List.foldl_cons,Q1 l,zgT];simp only [List.foldl_cons]
def zjf(L:ja)(e:jF):Int:=
 if e.kind=2 then e.ver else if e.kind=3 then(if 1<L.fold.eras.length then((L.fold.eras[L.fold.eras.length - 2]?).getD (0,0,0)).2.1 else 0)else 0
def qo(bad:List Int)(L:ja)(x:List UInt8):ja:=if(jC x).2≠0 then L else(ye L (jC x).1 (bad.contains (zjf L (jC x).1))).1
def za6(v:Int)(bad:List Int)(s:StD)(vals:List (List UInt8)):ja:=vals.foldl (qo bad) (zhT v s)
theorem Qd(v:Int)(bad:List Int)(s:StD)(vals:List (List UInt8))(x:List UInt8):za6 v bad s (vals++ [x])=qo bad (za6 v bad s vals) x:=by simp [za6,List.foldl_append]
theorem za7(L:ja):L.log<+:(yM L).1.log:=by
 unfold yM
 split
 ·exact U0 _
 ·exact List.prefix_append _ _
theorem zeZ(L:ja)(e:jF)(b:Bool):L.log<+:(ye L e b).1.log:=by
 unfold ye
 split
 ·exact U0 _
 ·have h:=za7 (qE (zij L (j0 L.fold e) b) (j0 L.fold e).2.1)
  have h2:(qE (zij L (j0 L.fold e) b) (j0 L.fold e).2.1).log=L.log:=(xP L _ b).2;rw [h2] at h;exact h
theorem zcH(bad:List Int)(L:ja)(x:List UInt8):L.log<+:(qo bad L x).log:=by
 unfold qo
 split
 ·exact U0 _
 ·exact zeZ _ _ _
theorem za8(v:Int)(bad:List Int)(s:StD)(a b:List (List UInt8)):(za6 v bad s a).log<+:(za6 v bad s (a++b)).log:=by
 induction b generalizing a with
 |nil=>rw [List.append_nil];exact U0 _
 |cons x b ih=>
  have h1:=zcH bad (za6 v bad s a) x;rw [← Qd] at h1;have h2:=ih (a++ [x]);rw [List.append_assoc] at h2;exact h1.trans h2
def xr(n:zv)(s:StD)(known:List (Int×List UInt8))(vals:List (List UInt8)):Prop:=
 vals.length=n.applied/\n.loc=za6 n.version n.bad s vals/\∀(j:Nat)(x:List UInt8),vals[j]?=some x->zJ ((j:Int)+1) known=some x
structure xt(n m:zv):Prop where
 id:m.id=n.id
 version:m.version=n.version
 bad:m.bad=n.bad
 store:m.store=n.store
 pax:m.pax=n.pax
 acc:m.acc=n.acc
 down:m.down=n.down
theorem xt.refl(n:zv):xt n n:=⟨rfl,rfl,rfl,rfl,rfl,rfl,rfl⟩
theorem xt.trans {a b c:zv}(h:xt a b)(k:xt b c):xt a c:=⟨k.id.trans h.id,k.version.trans h.version,k.bad.trans h.bad,k.store.trans h.store,k.pax.trans h.pax,k.acc.trans h.acc,k.down.trans h.down⟩
theorem vu:∀(k:Nat)(n:zv),xt n (j2 k n)/\(j2 k n).loc=n.loc/\(j2 k n).applied=n.applied
 |0,n=>⟨xt.refl n,rfl,rfl⟩
 |k+1,n=>by
  unfold j2
  split
  ·exact⟨xt.refl n,rfl,rfl⟩
  ·rename_i m _
   split
   ·have h:=vu k {n with pool:=(zgC n.pool m).1,offered:=n.offered+1}
    exact⟨⟨h.1.id,h.1.version,h.1.bad,h.1.store,h.1.pax,h.1.acc,h.1.down⟩,h.2.1,h.2.2⟩
   ·exact⟨⟨rfl,rfl,rfl,rfl,rfl,rfl,rfl⟩,rfl,rfl⟩
theorem Yl(n:zv)(e:jF):xt n (xu n e).1/\(xu n e).1.loc=(ye n.loc e (n.bad.contains (zjf n.loc e))).1/\(xu n e).1.applied=n.applied:=by
 unfold xu;simp only;have h:=vu (n.acc.length+1) {n with loc:=(ye n.loc e (n.bad.contains (xM n e))).1,wanted:=if vC (ye n.loc e (n.bad.contains (xM n e))).1.fold.eras=vC n.loc.fold.eras then n.wanted else 0,pool:=QT (QT n.pool (ye n.loc e (n.bad.contains (xM n e))).2.1) (ye n.loc e (n.bad.contains (xM n e))).1.held};exact⟨⟨h.1.id,h.1.version,h.1.bad,h.1.store,h.1.pax,h.1.acc,h.1.down⟩,h.2.1,h.2.2⟩
theorem VR(s:StD):∀(k:Nat)(n:zv)(vals:List (List UInt8)),xr n s n.pax.known vals->xt n (jD k n).1/\∃more,xr (jD k n).1 s n.pax.known (vals++more)/\(zJ (((vals++more).length:Int)+1) n.pax.known=none∨more.length=k)
 |0,n,vals,h=>⟨xt.refl n,[],by simpa [jD] using h,.inr rfl⟩
 |k+1,n,vals,h=>by
  unfold jD
  cases hl:zJ ((n.applied:Int)+1) n.pax.known with
  |none=>exact⟨xt.refl n,[],by simpa using h,.inl (by simp only [List.append_nil];rw [h.1];exact hl)⟩
  |some x=>
   simp only
   have step:∀m:zv,xt n m->m.loc=qo n.bad n.loc x->m.applied=n.applied+1->xr m s m.pax.known (vals++ [x]):=λm hs hloc happ=>by
    refine⟨by rw [N1,U2,happ,h.1],?_,λj y hj=>?_⟩
    ·rw [hs.version,hs.bad,Qd,← h.2.1];exact hloc
    ·rw [hs.pax]
     rcases Nat.lt_or_ge j vals.length with hlt|hge
     ·rw [U8 hlt] at hj;exact h.2.2 j y hj
     ·rw [U6 hge] at hj
      have:j=vals.length:=by
       have:=(N6.1 hj).1;simp at this;omega
      subst this;simp at hj;subst hj
      rw [h.1];exact hl
   have go:∀m:zv,xt n m->xr m s m.pax.known (vals++ [x])->xt n (jD k m).1/\∃more,xr (jD k m).1 s n.pax.known (vals++more)/\(zJ (((vals++more).length:Int)+1) n.pax.known=none∨more.length=k+1):=λm hs ha=>by
    obtain⟨h1,more,h2,h3⟩:=VR s k m (vals++ [x]) ha;rw [hs.pax] at h2 h3;refine⟨hs.trans h1,[x] ++more,by rw [← List.append_assoc];exact h2,?_⟩;rw [← List.append_assoc]
    rcases h3 with h3|h3
    ·exact .inl h3
    ·exact .inr (by simp;omega)
   split
   ·rename_i hd
    refine go _ ⟨rfl,rfl,rfl,rfl,rfl,rfl,rfl⟩ (step _ ⟨rfl,rfl,rfl,rfl,rfl,rfl,rfl⟩ ?_ rfl);unfold qo;rw [if_pos hd]
   ·rename_i hd
    have he:=Yl {n with applied:=n.applied+1} (jC x).1;have hs:xt n (xu {n with applied:=n.applied+1} (jC x).1).1:=⟨he.1.id,he.1.version,he.1.bad,he.1.store,he.1.pax,he.1.acc,he.1.down⟩;refine go _ hs (step _ hs ?_ he.2.2);unfold qo;rw [if_neg hd];exact he.2.1
def yk(known:List (Int×List UInt8)):Prop:=∀i x,zJ i known=some x->1<=i/\i<=10000
theorem Z2 {p:xl}(i:Int)(x:List UInt8):(∀j y,zJ j p.known=some y->zJ j (zV p i x).1.known=some y)/\(yk p.known->yk (zV p i x).1.known)/\(zV p i x).1.votes=p.votes:=by
 unfold zV
 by_cases h1:zP i=false∨4000<x.length
 ·rw [if_pos h1];exact⟨λ_ _ h=>h,λh=>h,rfl⟩
 ·rw [if_neg h1]
  have hi:zP i=true:=by
   cases hi:zP i
   ·exact absurd (.inl hi) h1
   ·rfl
  cases hl:zJ i p.known with
  |some y=>simp only;split<;>exact⟨λ_ _ h=>h,λh=>h,rfl⟩
  |none=>
   refine⟨λj y h=>?_,λh j y hj=>?_,rfl⟩
   ·show zJ j (put i x p.known)=some y
    rw [xz]
    split
    ·rename_i e;subst e;rw [hl] at h;cases h
    ·exact h
   ·have hj':zJ j (put i x p.known)=some y:=hj
    rw [xz] at hj'
    split at hj'
    ·rename_i e;subst e;exact qt hi
    ·exact h j y hj'
theorem ze0(kind:UInt8)(v:jn)(b:Nat)(x:List UInt8):v.1<=(xK kind v b x).1:=by
 unfold xK
 split<;>exact Nat.le_max_left _ _
theorem za9(p:xl)(r:List UInt8):(∀j y,zJ j p.known=some y->zJ j (yy p r).known=some y)/\(yk p.known->yk (yy p r).known)/\∀i,(zO p i).1<=(zO (yy p r) i).1:=by
 unfold yy
 cases jE r with
 |none=>exact⟨λ_ _ h=>h,λh=>h,λ_=>N0 _⟩
 |some q=>
  obtain⟨k,i,b,x⟩:=q;simp only
  split
  ·have h:=Z2 (p:=p) i x
   exact⟨h.1,h.2.1,λj=>by unfold zO;rw [h.2.2];exact N0 _⟩
  ·split
   ·exact⟨λ_ _ h=>h,λh=>h,λ_=>N0 _⟩
   ·refine⟨λ_ _ h=>h,λh=>h,λj=>?_⟩
    show _<=((zJ j (put i _ p.votes)).getD (0,0,[])).1
    rw [xz]
    split
    ·rename_i e;subst e;exact ze0 _ _ _ _
    ·exact N0 _
theorem JL(q:List zD×xl)(r:List UInt8):q.1<+:(jS q r).1/\(∀j y,zJ j q.2.known=some y->zJ j (jS q r).2.known=some y)/\(yk q.2.known->yk (jS q r).2.known)/\∀i,(zO q.2 i).1<=(zO (jS q r).2 i).1:=by
 unfold jS
 cases r with
 |nil=>exact⟨U0 _,λ_ _ h=>h,λh=>h,λ_=>N0 _⟩
 |cons k d=>
  simp only
  split
  ·exact⟨List.prefix_append _ _,λ_ _ h=>h,λh=>h,λ_=>N0 _⟩
  ·exact⟨U0 _,za9 _ _⟩
theorem ziq(l:List (List UInt8)):∀(m:List (List UInt8)),(RR l).1<+:(RR (l++m)).1/\(∀j y,zJ j (RR l).2.known=some y->zJ j (RR (l++m)).2.known=some y)/\∀i,(zO (RR l).2 i).1<=(zO (RR (l++m)).2 i).1:=by
 intro m
 induction m generalizing l with
 |nil=>rw [List.append_nil];exact⟨U0 _,λ_ _ h=>h,λ_=>N0 _⟩
 |cons r m ih=>
  have h1:=JL (RR l) r;rw [← zcG] at h1;have h2:=ih (l++ [r]);rw [List.append_assoc] at h2;exact⟨h1.1.trans h2.1,λj y h=>h2.2.1 j y (h1.2.1 j y h),λi=>Nat.le_trans (h1.2.2.2 i) (h2.2.2 i)⟩
theorem Q2(l:List (List UInt8)):yk (RR l).2.known:=by
 suffices h:∀(l:List (List UInt8)) (q:List zD×xl),yk q.2.known->yk (l.foldl jS q).2.known from h l _ (λi x hx=>by simp [qe,zJ] at hx)
 intro l
 induction l with
 |nil=>intro q h;exact h
 |cons r l ih=>intro q h;exact ih _ ((JL q r).2.2.1 h)
structure Q3(s:StD)(n:zv)(l:List (List UInt8)):Prop where
 kept:zeS n.store l
 up:n.down=false->n.store.crashed=false/\n.acc=(RR l).1/\n.pax=(RR l).2
 acc:n.acc<+:(RR l).1
 loc:∃vals,xr n s (RR l).2.known vals
def zir(id:Int)(acc:List zD):Prop:=∀(j:Nat)(m:zD),acc[j]?=some m->m.1=(id,j+1)
structure vA(s:StD)(n:zv)(l:List (List UInt8))(m:zv)(l':List (List UInt8)):Prop where
 inv:Q3 s m l'
 recs:l<+:l'
 acc:n.acc<+:m.acc
 log:n.loc.log<+:m.loc.log
 ids:zir n.id (RR l).1->zir n.id (RR l').1
 same:m.id=n.id/\m.version=n.version/\m.bad=n.bad
theorem vA.refl {s:StD}{n:zv}{l:List (List UInt8)}(h:Q3 s n l):vA s n l n l:=⟨h,U0 _,U0 _,U0 _,λh=>h,rfl,rfl,rfl⟩
theorem vA.trans {s:StD}{a b c:zv}{l m k:List (List UInt8)}(h:vA s a l b m)(g:vA s b m c k):vA s a l c k:=
 ⟨g.inv,h.recs.trans g.recs,h.acc.trans g.acc,h.log.trans g.log,(λx=>by have:=g.ids (by rw [h.same.1];exact h.ids x);rwa [h.same.1] at this),g.same.1.trans h.same.1,g.same.2.1.trans h.same.2.1,g.same.2.2.trans h.same.2.2⟩
theorem zis {l:List (List UInt8)}{k:UInt8}{d:List UInt8}(hk:k≠109):RR (l++ [k::d])=((RR l).1,yy (RR l).2 (k::d)):=by
 rw [zcG];unfold jS;simp only;rw [if_neg (λh=>hk h.1)]
theorem xr.more {n m:zv}{s:StD}{vals:List (List UInt8)}{l:List (List UInt8)}(h:xr n s (RR l).2.known vals)(k:List (List UInt8))(h1:m.applied=n.applied)(h2:m.loc=n.loc)(h3:m.version=n.version)(h4:m.bad=n.bad):xr m s (RR (l++k)).2.known vals:=
 ⟨h.1.trans h1.symm,by rw [h2,h3,h4];exact h.2.1,λj x hj=>(ziq l k).2.1 _ _ (h.2.2 j x hj)⟩
theorem Q3.same {s:StD}{n m:zv}{l:List (List UInt8)}(h:Q3 s n l)(hs:xt n m)(h1:m.applied=n.applied)(h2:m.loc=n.loc):Q3 s m l:=by
 obtain⟨vals,hv⟩:=h.loc;refine⟨by rw [hs.store];exact h.kept,λhd=>?_,by rw [hs.acc];exact h.acc,vals,?_⟩
 ·rw [hs.store,hs.acc,hs.pax];exact h.up (by rw [← hs.down];exact hd)
 ·exact⟨hv.1.trans h1.symm,by rw [h2,hs.version,hs.bad];exact hv.2.1,hv.2.2⟩
theorem VS {s:StD}{n:zv}{l:List (List UInt8)}(h:Q3 s n l)(hd:n.down=false)(p:xl)(k:UInt8)(d:List UInt8)(hk:k≠109)(hp:p=yy n.pax (k::d)):
 ∃l',vA s n l (yj {n with pax:=p} true (k::d)).1 l'/\((yj {n with pax:=p} true (k::d)).2=0->l'=l++ [k::d] /\(yj {n with pax:=p} true (k::d)).1.down=false)/\((yj {n with pax:=p} true (k::d)).2≠0->(yj {n with pax:=p} true (k::d)).1.down=true):=by
 obtain⟨hc,ha,hx⟩:=h.up hd;obtain⟨vals,hv⟩:=h.loc;have hRR:=zis (l:=l) (d:=d) hk;unfold yj;simp only
 rcases Qb h.kept (k::d)with⟨h1, -,h3,h4⟩|⟨h1,h2,h3⟩|⟨h1,h2⟩
 ·refine⟨l++ [k::d],⟨⟨h4,λ_=>⟨h3,?_,?_⟩,?_,vals,hv.more _ rfl rfl rfl rfl⟩,List.prefix_append _ _,U0 _,U0 _,(λx=>by rw [hRR];exact x),rfl,rfl,rfl⟩,λ_=>⟨rfl,?_⟩,λh=>absurd h1 h⟩
  ·show n.acc=_;rw [hRR];exact ha
  ·show p=_;rw [hRR,hp,hx]
  ·show n.acc<+:_;rw [hRR];exact h.acc
  ·rw [h1,hd];rfl
 ·have hdn:(n.down||decide ((jg n.store (k::d)).2=31)||(true && decide ((jg n.store (k::d)).2≠0)))=true:=by rw [h1];simp
  have hup:∀l'',((n.down||decide ((jg n.store (k::d)).2=31)||(true && decide ((jg n.store (k::d)).2≠0)))=false->(jg n.store (k::d)).1.crashed=false/\n.acc=(RR l'').1/\p=(RR l'').2):=λl'' h=>by rw [hdn] at h;cases h
  rcases h3 with h3|h3
  ·exact⟨l,⟨⟨h3,hup l,h.acc,vals,hv⟩,U0 _,U0 _,U0 _,(λh=>h),rfl,rfl,rfl⟩,λh=>by rw [h1] at h;simp at h,λ_=>hdn⟩
  ·refine⟨l++ [k::d],⟨⟨h3,hup _,?_,vals,hv.more _ rfl rfl rfl rfl⟩,List.prefix_append _ _,U0 _,U0 _,(λx=>by rw [hRR];exact x),rfl,rfl,rfl⟩,λh=>by rw [h1] at h;simp at h,λ_=>hdn⟩
   show n.acc<+:_;rw [hRR];exact h.acc
 ·have hdn:(n.down||decide ((jg n.store (k::d)).2=31)||(true && decide ((jg n.store (k::d)).2≠0)))=true:=by rw [h1];simp
  refine⟨l,⟨⟨by show zeS (jg n.store (k::d)).1 l;rw [h2];exact h.kept,λh=>?_,h.acc,vals,hv⟩,U0 _,U0 _,U0 _,(λh=>h),rfl,rfl,rfl⟩,λh=>by rw [h1] at h;simp at h,λ_=>hdn⟩;have h':(n.down||decide ((jg n.store (k::d)).2=31)||(true && decide ((jg n.store (k::d)).2≠0)))=false:=h;rw [hdn] at h';cases h'
theorem zba {s:StD}{n:zv}{l:List (List UInt8)}(h:Q3 s n l)(i:Int)(b:Nat)(hb:b<18446744073709551616):∃l',vA s n l (j6 n i b).1 l'/\((j6 n i b).2.2=0->b<=(zO (RR l').2 i).1):=by
 unfold j6
 by_cases hd:n.down=false
 ·rw [if_neg (by rw [hd];simp)]
  by_cases he:(zB n.pax i b).2.2.2≠0
  ·rw [if_pos he];exact⟨l,vA.refl h,λh=>absurd h he⟩
  ·rw [if_neg he]
   obtain⟨h1,h2,h3,h4,h5,h6⟩:=QZ hb (Decidable.not_not.1 he);have hrec:(zB n.pax i b).2.2.1=112::(le4 (i.toNat % 4294967296)++le8 b):=by rw [h2];rfl
   obtain⟨l',k1,k2,k3⟩:=VS h hd (zB n.pax i b).1 112 (le4 (i.toNat % 4294967296)++le8 b) (by decide) (by rw [← hrec];exact h1.symm);rw [← hrec] at k1 k2 k3
   split
   ·rename_i hq;exact⟨l',k1,λh=>absurd h hq⟩
   ·rename_i hq
    refine⟨l',k1,λ_=>?_⟩;have hq':=k2 (Decidable.not_not.1 hq);have hp:=(k1.inv.up hq'.2).2.2;have hp':(zB n.pax i b).1=(RR l').2:=hp;rw [← hp',h6]
    show b<=((zJ i (put i _ n.pax.votes)).getD (0,0,[])).1
    rw [xz,if_pos rfl];exact N0 _
 ·rw [if_pos (by simpa using hd)]
  exact⟨l,vA.refl h,λh=>by simp at h⟩
theorem zbb {s:StD}{n:zv}{l:List (List UInt8)}(h:Q3 s n l)(i:Int)(b:Nat)(x:List UInt8)(hb:b<18446744073709551616):∃l',vA s n l (JE n i b x).1 l':=by
 unfold JE
 by_cases hd:n.down=false
 ·rw [if_neg (by rw [hd];simp)]
  by_cases he:(vH n.pax i b x).2.2≠0
  ·rw [if_pos he];exact⟨l,vA.refl h⟩
  ·rw [if_neg he]
   obtain⟨h1, -, -, -, -, -,h2⟩:=zeV hb (Decidable.not_not.1 he);have hrec:(vH n.pax i b x).2.1=118::(le4 (i.toNat % 4294967296)++(le8 b++x)):=by rw [h2];rfl
   obtain⟨l',k1, -, -⟩:=VS h hd (vH n.pax i b x).1 118 (le4 (i.toNat % 4294967296)++(le8 b++x)) (by decide) (by rw [← hrec];exact h1.symm);rw [← hrec] at k1;exact⟨l',k1⟩
 ·rw [if_pos (by simpa using hd)]
  exact⟨l,vA.refl h⟩
theorem Qe {s:StD}{n:zv}{l:List (List UInt8)}(h:Q3 s n l)(hd:n.down=false)(k:Nat):vA s n l (jD k n).1 l:=by
 obtain⟨hc,ha,hx⟩:=h.up hd;obtain⟨vals,hv⟩:=h.loc;have hv':xr n s n.pax.known vals:=by rw [hx];exact hv
 obtain⟨hs,more,h1, -⟩:=VR s k n vals hv';rw [hx] at h1;refine⟨⟨by rw [hs.store];exact h.kept,λ_=>by rw [hs.store,hs.acc,hs.pax];exact⟨hc,ha,hx⟩,by rw [hs.acc];exact h.acc,_,h1⟩,U0 _,by rw [hs.acc];exact U0 _,?_,λh=>h,hs.id,hs.version,hs.bad⟩;rw [h1.2.1,hv.2.1,hs.version,hs.bad];exact za8 _ _ _ _ _
theorem Ym {s:StD}{n:zv}{l:List (List UInt8)}(h:Q3 s n l)(i:Int)(x:List UInt8):∃l',vA s n l (qr n i x).1 l':=by
 unfold qr
 by_cases hd:n.down=false
 ·rw [if_neg (by rw [hd];simp)]
  by_cases he:(zV n.pax i x).2.2≠0
  ·rw [if_pos he];exact⟨l,vA.refl h⟩
  ·rw [if_neg he]
   by_cases hr:(zV n.pax i x).2.1=[]
   ·rw [if_pos hr]
    have hsame:(zV n.pax i x).1=n.pax:=zeW (.inr hr);rw [hsame];exact⟨l,Qe h hd _⟩
   ·rw [if_neg hr]
    obtain⟨h1, -, -, -, -, -,h2⟩:=zcD (Decidable.not_not.1 he) hr;have hrec:(zV n.pax i x).2.1=100::(le4 (i.toNat % 4294967296)++x):=by rw [h2];rfl
    obtain⟨l',k1,k2,k3⟩:=VS h hd (zV n.pax i x).1 100 (le4 (i.toNat % 4294967296)++x) (by decide) (by rw [← hrec];exact h1.symm);rw [← hrec] at k1 k2 k3
    generalize yj {n with pax:=(zV n.pax i x).1} true (zV n.pax i x).2.1=q at*
    by_cases hq:q.2≠0
    ·exact⟨l',by simp only [if_pos hq];exact k1⟩
    ·have hq':=k2 (Decidable.not_not.1 hq)
     exact⟨l',by simp only [if_neg hq];exact k1.trans (Qe k1.inv hq'.2 _)⟩
 ·rw [if_pos (by simpa using hd)]
  exact⟨l,vA.refl h⟩
theorem ze1 {m:zD}(h:zG m=true)(q:List zD×xl):jS q ([109] ++(yA [m]).1)=(q.1++ [m],q.2):=by
 have hp:=zd4 h;have hu:=zcF (l:=[m]) (by rw [hp])
 show jS q (109::(yA [m]).1)=_
 unfold jS;simp only;rw [hu,if_pos (by simp)]
theorem XM {s:StD}{n:zv}{l:List (List UInt8)}(h:Q3 s n l)(d:List UInt8):
 ∃l',vA s n l (jc n d).1 l'/\((jc n d).2.2=0->(jc n d).2.1.1=(n.id,n.acc.length+1)/\(jc n d).1.acc=n.acc++ [(jc n d).2.1] /\n.down=false):=by
 unfold jc
 by_cases hd:n.down=false
 ·rw [if_neg (by rw [hd];simp)]
  obtain⟨hc,ha,hx⟩:=h.up hd;obtain⟨vals,hv⟩:=h.loc
  by_cases hr:zG ((n.id,n.acc.length+1),d)=false
  ·rw [if_pos hr];exact⟨l,vA.refl h,λh=>by simp at h⟩
  ·rw [if_neg hr]
   have hr':zG ((n.id,n.acc.length+1),d)=true:=by simpa using hr
   have hrep:=ze1 hr' (RR l)
   generalize hmm:((n.id,n.acc.length+1),d)=m at*
   generalize [109] ++(yA [m]).1=rec at*
   have hRR:RR (l++ [rec])=((RR l).1++ [m],(RR l).2):=by rw [zcG];exact hrep
   have hids:zir n.id (RR l).1->zir n.id (RR (l++ [rec])).1:=λx j y hj=>by
    rw [hRR] at hj;have hj':((RR l).1++ [m])[j]?=some y:=hj
    rcases Nat.lt_or_ge j (RR l).1.length with hlt|hge
    ·rw [U8 hlt] at hj';exact x j y hj'
    ·rw [U6 hge] at hj'
     have hj2:j=(RR l).1.length:=by
      have:=(N6.1 hj').1;simp at this;omega
     subst hj2;simp at hj'
     rw [← hj',← hmm,ha]
   unfold yj;simp only [Bool.false_and,Bool.or_false]
   rcases Qb h.kept rec with⟨h1, -,h3,h4⟩|⟨h1,h2,h3⟩|⟨h1,h2⟩
   ·rw [if_neg (by rw [h1];simp)]
    have ho:=vu (n.acc.length+1) {n with store:=(jg n.store rec).1,down:=n.down||decide ((jg n.store rec).2=31),acc:=n.acc++ [m] };have hdn:(n.down||decide ((jg n.store rec).2=31))=false:=by rw [h1,hd];rfl
    have hinv:Q3 s {n with store:=(jg n.store rec).1,down:=n.down||decide ((jg n.store rec).2=31),acc:=n.acc++ [m] } (l++ [rec]):=
     ⟨h4,λ_=>⟨h3,by show n.acc++ [m]=_;rw [hRR,ha],by show n.pax=_;rw [hRR,hx]⟩,by show n.acc++ [m] <+:_;rw [hRR,ha];exact U0 _,vals,hv.more _ rfl rfl rfl rfl⟩
    refine⟨l++ [rec],⟨hinv.same ho.1 ho.2.2 ho.2.1,List.prefix_append _ _,?_,?_,hids,ho.1.id,ho.1.version,ho.1.bad⟩,λ_=>⟨?_,ho.1.acc,hd⟩⟩
    ·rw [ho.1.acc];exact List.prefix_append _ _
    ·rw [ho.2.1];exact U0 _
    ·show m.1=_;rw [← hmm]
   ·rw [if_pos (by rw [h1];simp)]
    have hdn:(n.down||decide ((jg n.store rec).2=31))=true:=by rw [h1];simp
    have hup:∀l'',((n.down||decide ((jg n.store rec).2=31))=false->(jg n.store rec).1.crashed=false/\n.acc=(RR l'').1/\n.pax=(RR l'').2):=λl'' h=>by rw [hdn] at h;cases h
    rcases h3 with h3|h3
    ·exact⟨l,⟨⟨h3,hup l,h.acc,vals,hv⟩,U0 _,U0 _,U0 _,(λh=>h),rfl,rfl,rfl⟩,λh=>by rw [h1] at h;simp at h⟩
    ·refine⟨l++ [rec],⟨⟨h3,hup _,?_,vals,hv.more _ rfl rfl rfl rfl⟩,List.prefix_append _ _,U0 _,U0 _,hids,rfl,rfl,rfl⟩,λh=>by rw [h1] at h;simp at h⟩
     show n.acc<+:_;rw [hRR];exact h.acc.trans (List.prefix_append _ _)
   ·rw [if_pos (by rw [h1];simp)]
    have hdn:(n.down||decide ((jg n.store rec).2=31))=n.down:=by rw [h1];simp
    refine⟨l,⟨⟨by show zeS (jg n.store rec).1 l;rw [h2];exact h.kept,λ_=>?_,h.acc,vals,hv⟩,U0 _,U0 _,U0 _,(λh=>h),rfl,rfl,rfl⟩,λh=>by rw [h1] at h;simp at h⟩
    show(jg n.store rec).1.crashed=false/\_;rw [h2];exact⟨hc,ha,hx⟩
 ·rw [if_pos (by simpa using hd)]
  exact⟨l,vA.refl h,λh=>by simp at h⟩
theorem zgU {s:StD}{n:zv}{l:List (List UInt8)}(h:Q3 s n l)(v:Int):vA s n l (Z1 n v).1 l:=by
 unfold Z1
 split
 ·exact vA.refl h
 ·split
  ·exact vA.refl h
  ·exact⟨h.same ⟨rfl,rfl,rfl,rfl,rfl,rfl,rfl⟩ rfl rfl,U0 _,U0 _,U0 _,(λh=>h),rfl,rfl,rfl⟩
theorem zit {s:StD}{n:zv}{l:List (List UInt8)}(h:Q3 s n l)(k:Int):vA s n l (zcu n k).1 l:=by
 unfold zcu
 split
 ·exact vA.refl h
 ·have hk:=zio h.kept k
  obtain⟨vals,hv⟩:=h.loc;exact⟨⟨hk.1,λhd=>⟨hk.2.trans (h.up hd).1,(h.up hd).2⟩,h.acc,vals,hv⟩,U0 _,U0 _,U0 _,(λh=>h),rfl,rfl,rfl⟩
theorem ze2 {s:StD}{n:zv}{l:List (List UInt8)}(h:Q3 s n l):vA s n l (xN n).1 l:=by
 unfold xN
 split
 ·exact vA.refl h
 ·obtain⟨vals,hv⟩:=h.loc
  exact⟨⟨h.kept,(λhd=>absurd hd (by simp)),h.acc,vals,hv⟩,U0 _,U0 _,U0 _,(λh=>h),rfl,rfl,rfl⟩
theorem zbc {known:List (Int×List UInt8)}(hk:yk known){a b:List (List UInt8)}(ha:∀(j:Nat)(x:List UInt8),a[j]?=some x->zJ ((j:Int)+1) known=some x)(hb:∀(j:Nat)(x:List UInt8),b[j]?=some x->zJ ((j:Int)+1) known=some x)
 (he:zJ ((b.length:Int)+1) known=none∨b.length=10001):a<+:b:=by
 have hlen:a.length<=b.length:=by
  rcases Nat.lt_or_ge b.length a.length with h|h
  ·exfalso
   obtain⟨x,hx⟩:∃x,a[b.length]?=some x:=⟨_,N3 h⟩;have h1:=ha _ _ hx
   rcases he with he|he
   ·rw [he] at h1;cases h1
   ·have:=hk _ _ h1;omega
  ·exact h
 rw [List.prefix_iff_eq_take]
 apply List.ext_getElem?
 intro j;rw [List.getElem?_take]
 split
 ·rename_i hj
  obtain⟨x,hx⟩:∃x,a[j]?=some x:=⟨_,N3 hj⟩;obtain⟨y,hy⟩:∃y,b[j]?=some y:=⟨_,N3 (by omega)⟩;have h1:=ha _ _ hx;have h2:=hb _ _ hy;rw [h1] at h2;cases h2
  rw [hx,hy]
 ·rename_i hj;rw [List.getElem?_eq_none (by omega)]
theorem zbd {s:StD}{n:zv}{l:List (List UInt8)}(h:Q3 s n l):vA s n l (yN n s) l/\(yN n s).down=false:=by
 obtain⟨r1,r2,r3⟩:=zaZ h.kept;obtain⟨vals,hv⟩:=h.loc;unfold yN;simp only;rw [r1,Q1]
 generalize hm:({qf {n with store:=(jq n.store).1} s with acc:=(l.foldl jS ((qf {n with store:=(jq n.store).1} s).acc,(qf {n with store:=(jq n.store).1} s).pax)).1,pax:=(l.foldl jS ((qf {n with store:=(jq n.store).1} s).acc,(qf {n with store:=(jq n.store).1} s).pax)).2} :zv)=m
 have m1:m.acc=(RR l).1:=by rw [← hm];rfl
 have m2:m.pax=(RR l).2:=by rw [← hm];rfl
 have m3:m.store=(jq n.store).1:=by rw [← hm];rfl
 have m4:m.id=n.id/\m.version=n.version/\m.bad=n.bad:=by rw [← hm];exact⟨rfl,rfl,rfl⟩
 have hA:xr m s m.pax.known []:=⟨by rw [← hm];rfl,by rw [← hm];rfl,λj x hj=>by simp at hj⟩;obtain⟨hs,more,h1,h2⟩:=VR s 10001 m [] hA;rw [List.nil_append] at h1 h2;rw [m2] at h1 h2;have ho:=vu ((jD 10001 m).1.acc.length+1) (jD 10001 m).1
 generalize j2 ((jD 10001 m).1.acc.length+1) (jD 10001 m).1=q at*
 have hq:xt m q:=hs.trans ho.1;have hAq:xr q s (RR l).2.known more:=⟨h1.1.trans ho.2.2.symm,by rw [ho.2.1,h1.2.1,ho.1.version,ho.1.bad],h1.2.2⟩;have hpre:=zbc (Q2 l) hv.2.2 h1.2.2 h2;refine⟨⟨⟨by show zeS q.store l;rw [hq.store,m3];exact r2,λ_=>⟨by show q.store.crashed=false;rw [hq.store,m3];exact r3,by show q.acc=_;rw [hq.acc,m1],by show q.pax=_;rw [hq.pax,m2]⟩,by show q.acc<+:_;rw [hq.acc,m1];exact U0 _,more,hAq⟩,U0 _,?_,?_,(λh=>h),hq.id.trans m4.1,hq.version.trans m4.2.1,hq.bad.trans m4.2.2⟩,by first|exact rfl|exact trivial⟩
 ·show n.acc<+:q.acc;rw [hq.acc,m1];exact h.acc
 ·show n.loc.log<+:q.loc.log
  rw [hAq.2.1,hv.2.1,hq.version,hq.bad,m4.2.1,m4.2.2];obtain⟨t,ht⟩:=hpre;rw [← ht];exact za8 _ _ _ _ _
structure zkc where
 what:Int
 inst:Int
 b:Nat
 s:List UInt8
def zbe(x:zkc):List UInt8:=if x.b=77 then List.replicate 1100 0 else x.s.take 300
def zbf(x:zkc):Nat:=(x.what % 18446744073709551616).toNat % 9
def zcI(s:StD)(n:zv)(x:zkc):zv:=
 if zbf x=0 then(jc n (zbe x)).1
 else if zbf x=1 then(j6 n x.inst x.b).1
 else if zbf x=2 then(JE n x.inst x.b (zbe x)).1
 else if zbf x=3 then(qr n x.inst (zbe x)).1
 else if zbf x=4 then(Z1 n x.inst).1
 else if zbf x=5 then(zcu n x.inst).1
 else if zbf x=6 then(xN n).1
 else if zbf x=7 then yN n s
 else if(yt n).2 then(qr n (vM n) (yt n).1).1 else n
theorem zbg {s:StD}{n:zv}{l:List (List UInt8)}(h:Q3 s n l)(x:zkc)(hb:x.b<18446744073709551616):∃l',vA s n l (zcI s n x) l':=by
 unfold zcI
 split
 ·obtain⟨l',h1, -⟩:=XM h (zbe x);exact⟨l',h1⟩
 split
 ·obtain⟨l',h1, -⟩:=zba h x.inst x.b hb;exact⟨l',h1⟩
 split
 ·exact zbb h x.inst x.b (zbe x) hb
 split
 ·exact Ym h x.inst (zbe x)
 split
 ·exact⟨l,zgU h _⟩
 split
 ·exact⟨l,zit h _⟩
 split
 ·exact⟨l,ze2 h⟩
 split
 ·exact⟨l,(zbd h).1⟩
 split
 ·exact Ym h _ _
 ·exact⟨l,vA.refl h⟩
def zhU(id v cap:Int)(bad:List Int)(s:StD):zv:={id:=id,version:=v,bad:=bad,store:=qG cap,pax:=qe,loc:=zhT v s,pool:=qH,acc:=[],offered:=0,applied:=0,wanted:=0,down:=false}
theorem ziu(id v cap:Int)(bad:List Int)(s:StD):Q3 s (zhU id v cap bad s) []:=⟨QX cap,λ_=>⟨rfl,rfl,rfl⟩,U0 _,[],rfl,rfl,λj x hj=>by simp at hj⟩
