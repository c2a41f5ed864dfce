/- PARTS OF THE PROOF. -/
import Derived.Test.YtofppfoioodblaaGreatDoorDA12
set_option maxRecDepth 8000
set_option maxHeartbeats 4000000
namespace Go.Proofs.YtofppfoioodblaaGreatDoor
open Go
def jU(q:List zx×xM)(r:List UInt8):List zx×xM:=
 match r with
 | []=>q
 |k::d=>if k=109/\(ya d).2=0/\(ya d).1.length=1 then(q.1++(ya d).1,q.2)else(q.1,vl q.2 r)
def RR(l:List (List UInt8)):List zx×xM:=l.foldl jU ([],qx)
theorem zd2(l:List (List UInt8))(r:List UInt8):RR (l++ [r])=jU (RR l) r:=by simp [RR,List.foldl_append]
theorem zh3(n:zq)(r:List UInt8):Zl n r={n with acc:=(jU (n.acc,n.pax) r).1,pax:=(jU (n.acc,n.pax) r).2} :=by
 unfold Zl jU
 cases r with
 |nil=>rfl
 |cons k d=>simp only;split<;>rfl
theorem za7:∀(l:List (List UInt8)) (n:zq),l.foldl Zl n={n with acc:=(l.foldl jU (n.acc,n.pax)).1,pax:=(l.foldl jU (n.acc,n.pax)).2}
 | [],n=>rfl
 |r::l,n=>by
  rw [List.foldl_cons,za7 l,zh3];simp only [List.foldl_cons]
def zk2(L:zQ)(e:jz):Int:=
 if e.kind=2 then e.ver else if e.kind=3 then(if 1<L.fold.eras.length then((L.fold.eras[L.fold.eras.length - 2]?).getD (0,0,0)).2.1 else 0)else 0
def qJ(bad:List Int)(L:zQ)(x:List UInt8):zQ:=if(jq x).2≠0 then L else(j8 L (jq x).1 (bad.contains (zk2 L (jq x).1))).1
def zcp(v:Int)(bad:List Int)(s:StD)(vals:List (List UInt8)):zQ:=vals.foldl (qJ bad) (zjz v s)
theorem Q7(v:Int)(bad:List Int)(s:StD)(vals:List (List UInt8))(x:List UInt8):zcp v bad s (vals++ [x])=qJ bad (zcp v bad s vals) x:=by simp [zcp,List.foldl_append]
theorem zcq(L:zQ):L.log<+:(yD L).1.log:=by
 unfold yD
 split
 ·exact U0 _
 exact List.prefix_append _ _
theorem zgb(L:zQ)(e:jz)(b:Bool):L.log<+:(j8 L e b).1.log:=by
 unfold j8
 split
 ·exact U0 _
 have h:=zcq (qQ (zjy L (jX L.fold e) b) (jX L.fold e).2.1)
 have h2:(qQ (zjy L (jX L.fold e) b) (jX L.fold e).2.1).log=L.log:=(qj L _ b).2;rw [h2] at h;exact h
theorem zd3(bad:List Int)(L:zQ)(x:List UInt8):L.log<+:(qJ bad L x).log:=by
 unfold qJ
 split
 ·exact U0 _
 exact zgb _ _ _
theorem zcr(v:Int)(bad:List Int)(s:StD)(a b:List (List UInt8)):(zcp v bad s a).log<+:(zcp v bad s (a++b)).log:=by
 induction b generalizing a with
 |nil=>rw [List.append_nil];exact U0 _
 |cons x b ih=>
  have h1:=zd3 bad (zcp v bad s a) x;rw [← Q7] at h1;have h2:=ih (a++ [x]);rw [List.append_assoc] at h2;exact h1.trans h2
def xJ(n:zq)(s:StD)(known:List (Int×List UInt8))(vals:List (List UInt8)):Prop:=
 vals.length=n.applied/\n.loc=zcp n.version n.bad s vals/\∀(j:Nat)(x:List UInt8),vals[j]?=some x->zH ((j:Int)+1) known=some x
structure xK(n m:zq):Prop where
 id:m.id=n.id
 version:m.version=n.version
 bad:m.bad=n.bad
 store:m.store=n.store
 pax:m.pax=n.pax
 acc:m.acc=n.acc
 down:m.down=n.down
theorem xK.refl(n:zq):xK n n:=⟨rfl,rfl,rfl,rfl,rfl,rfl,rfl⟩
theorem xK.trans {a b c:zq}(h:xK a b)(k:xK b c):xK a c:=⟨k.id.trans h.id,k.version.trans h.version,k.bad.trans h.bad,k.store.trans h.store,k.pax.trans h.pax,k.acc.trans h.acc,k.down.trans h.down⟩
theorem vL:∀(k:Nat)(n:zq),xK n (jR k n)/\(jR k n).loc=n.loc/\(jR k n).applied=n.applied
 |0,n=>⟨xK.refl n,rfl,rfl⟩
 |k+1,n=>by
  unfold jR
  split
  ·exact⟨xK.refl n,rfl,rfl⟩
  rename_i m _
  split
  ·have h:=vL k {n with pool:=(zf3 n.pool m).1,offered:=n.offered+1}
   exact⟨⟨h.1.id,h.1.version,h.1.bad,h.1.store,h.1.pax,h.1.acc,h.1.down⟩,h.2.1,h.2.2⟩
  exact⟨⟨rfl,rfl,rfl,rfl,rfl,rfl,rfl⟩,rfl,rfl⟩
theorem Vd(n:zq)(e:jz):xK n (vW n e).1/\(vW n e).1.loc=(j8 n.loc e (n.bad.contains (zk2 n.loc e))).1/\(vW n e).1.applied=n.applied:=by
 unfold vW;simp only;have h:=vL (n.acc.length+1) {n with loc:=(j8 n.loc e (n.bad.contains (qi n e))).1,wanted:=if vo (j8 n.loc e (n.bad.contains (qi n e))).1.fold.eras=vo n.loc.fold.eras then n.wanted else 0,pool:=JQ (JQ n.pool (j8 n.loc e (n.bad.contains (qi n e))).2.1) (j8 n.loc e (n.bad.contains (qi n e))).1.held};exact⟨⟨h.1.id,h.1.version,h.1.bad,h.1.store,h.1.pax,h.1.acc,h.1.down⟩,h.2.1,h.2.2⟩
theorem XF(s:StD):∀(k:Nat)(n:zq)(vals:List (List UInt8)),xJ n s n.pax.known vals->xK n (jB k n).1/\∃more,xJ (jB k n).1 s n.pax.known (vals++more)/\(zH (((vals++more).length:Int)+1) n.pax.known=none∨more.length=k)
 |0,n,vals,h=>⟨xK.refl n,[],by simpa [jB] using h,.inr rfl⟩
 |k+1,n,vals,h=>by
  unfold jB
  cases hl:zH ((n.applied:Int)+1) n.pax.known with
  |none=>exact⟨xK.refl n,[],by simpa using h,.inl (by simp only [List.append_nil];rw [h.1];exact hl)⟩
  |some x=>
   simp only
   have step:∀m:zq,xK n m->m.loc=qJ n.bad n.loc x->m.applied=n.applied+1->xJ m s m.pax.known (vals++ [x]):=λm hs hloc happ=>by
    refine⟨by rw [N1,U2,happ,h.1],?_,λj y hj=>?_⟩
    ·rw [hs.version,hs.bad,Q7,← h.2.1];exact hloc
    rw [hs.pax]
    rcases Nat.lt_or_ge j vals.length with hlt|hge
    ·rw [U8 hlt] at hj;exact h.2.2 j y hj
    rw [U6 hge] at hj
    have:j=vals.length:=by
     have:=(N6.1 hj).1;simp at this;omega
    subst this;simp at hj;subst hj
    rw [h.1];exact hl
   have go:∀m:zq,xK n m->xJ m s m.pax.known (vals++ [x])->xK n (jB k m).1/\∃more,xJ (jB k m).1 s n.pax.known (vals++more)/\(zH (((vals++more).length:Int)+1) n.pax.known=none∨more.length=k+1):=λm hs ha=>by
    obtain⟨h1,more,h2,h3⟩:=XF s k m (vals++ [x]) ha;rw [hs.pax] at h2 h3;refine⟨hs.trans h1,[x] ++more,by rw [← List.append_assoc];exact h2,?_⟩;rw [← List.append_assoc]
    rcases h3 with h3|h3
    ·exact .inl h3
    exact .inr (by simp;omega)
   split
   ·rename_i hd
    refine go _ ⟨rfl,rfl,rfl,rfl,rfl,rfl,rfl⟩ (step _ ⟨rfl,rfl,rfl,rfl,rfl,rfl,rfl⟩ ?_ rfl);unfold qJ;rw [if_pos hd]
   rename_i hd
   have he:=Vd {n with applied:=n.applied+1} (jq x).1;have hs:xK n (vW {n with applied:=n.applied+1} (jq x).1).1:=⟨he.1.id,he.1.version,he.1.bad,he.1.store,he.1.pax,he.1.acc,he.1.down⟩;refine go _ hs (step _ hs ?_ he.2.2);unfold qJ;rw [if_neg hd];exact he.2.1
def yq(known:List (Int×List UInt8)):Prop:=∀i x,zH i known=some x->1<=i/\i<=10000
theorem JS {p:xM}(i:Int)(x:List UInt8):(∀j y,zH j p.known=some y->zH j (zV p i x).1.known=some y)/\(yq p.known->yq (zV p i x).1.known)/\(zV p i x).1.votes=p.votes:=by
 unfold zV
 by_cases h1:z8 i=false∨4000<x.length
 ·rw [if_pos h1];exact⟨λ_ _ h=>h,λh=>h,rfl⟩
 rw [if_neg h1]
 have hi:z8 i=true:=by
  cases hi:z8 i
  ·exact absurd (.inl hi) h1
  rfl
 cases hl:zH i p.known with
 |some y=>simp only;split<;>exact⟨λ_ _ h=>h,λh=>h,rfl⟩
 |none=>
  refine⟨λj y h=>?_,λh j y hj=>?_,rfl⟩
  ·show zH j (put i x p.known)=some y
   rw [yF]
   split
   ·rename_i e;subst e;rw [hl] at h;cases h
   exact h
  have aa:zH j (put i x p.known)=some y:=hj
  rw [yF] at aa
  split at aa
  ·rename_i e;subst e;exact qS hi
  exact h j y aa
theorem zgc(kind:UInt8)(v:jE)(b:Nat)(x:List UInt8):v.1<=(ZW kind v b x).1:=by
 unfold ZW
 split<;>exact Nat.le_max_left _ _
theorem zcs(p:xM)(r:List UInt8):(∀j y,zH j p.known=some y->zH j (vl p r).known=some y)/\(yq p.known->yq (vl p r).known)/\∀i,(ja p i).1<=(ja (vl p r) i).1:=by
 unfold vl
 cases ZV r with
 |none=>exact⟨λ_ _ h=>h,λh=>h,λ_=>N0 _⟩
 |some q=>
  obtain⟨k,i,b,x⟩:=q;simp only
  split
  ·have h:=JS (p:=p) i x
   exact⟨h.1,h.2.1,λj=>by unfold ja;rw [h.2.2];exact N0 _⟩
  split
  ·exact⟨λ_ _ h=>h,λh=>h,λ_=>N0 _⟩
  refine⟨λ_ _ h=>h,λh=>h,λj=>?_⟩
  show _<=((zH j (put i _ p.votes)).getD (0,0,[])).1
  rw [yF]
  split
  ·rename_i e;subst e;exact zgc _ _ _ _
  exact N0 _
theorem Yt(q:List zx×xM)(r:List UInt8):q.1<+:(jU q r).1/\(∀j y,zH j q.2.known=some y->zH j (jU q r).2.known=some y)/\(yq q.2.known->yq (jU q r).2.known)/\∀i,(ja q.2 i).1<=(ja (jU q r).2 i).1:=by
 unfold jU
 cases r with
 |nil=>exact⟨U0 _,λ_ _ h=>h,λh=>h,λ_=>N0 _⟩
 |cons k d=>
  simp only
  split
  ·exact⟨List.prefix_append _ _,λ_ _ h=>h,λh=>h,λ_=>N0 _⟩
  exact⟨U0 _,zcs _ _⟩
theorem zj8(l:List (List UInt8)):∀(m:List (List UInt8)),(RR l).1<+:(RR (l++m)).1/\(∀j y,zH j (RR l).2.known=some y->zH j (RR (l++m)).2.known=some y)/\∀i,(ja (RR l).2 i).1<=(ja (RR (l++m)).2 i).1:=by
 intro m
 induction m generalizing l with
 |nil=>rw [List.append_nil];exact⟨U0 _,λ_ _ h=>h,λ_=>N0 _⟩
 |cons r m ih=>
  have h1:=Yt (RR l) r;rw [← zd2] at h1;have h2:=ih (l++ [r]);rw [List.append_assoc] at h2;exact⟨h1.1.trans h2.1,λj y h=>h2.2.1 j y (h1.2.1 j y h),λi=>Nat.le_trans (h1.2.2.2 i) (h2.2.2 i)⟩
theorem za8(l:List (List UInt8)):yq (RR l).2.known:=by
 suffices h:∀(l:List (List UInt8)) (q:List zx×xM),yq q.2.known->yq (l.foldl jU q).2.known from h l _ (λi x hx=>by simp [qx,zH] at hx)
 intro l
 induction l with
 |nil=>intro q h;exact h
 |cons r l ih=>intro q h;exact ih _ ((Yt q r).2.2.1 h)
structure za9(s:StD)(n:zq)(l:List (List UInt8)):Prop where
 kept:zf5 n.store l
 up:n.down=false->n.store.crashed=false/\n.acc=(RR l).1/\n.pax=(RR l).2
 acc:n.acc<+:(RR l).1
 loc:∃vals,xJ n s (RR l).2.known vals
def zj9(id:Int)(acc:List zx):Prop:=∀(j:Nat)(m:zx),acc[j]?=some m->m.1=(id,j+1)
structure vK(s:StD)(n:zq)(l:List (List UInt8))(m:zq)(l':List (List UInt8)):Prop where
 inv:za9 s m l'
 recs:l<+:l'
 acc:n.acc<+:m.acc
 log:n.loc.log<+:m.loc.log
 ids:zj9 n.id (RR l).1->zj9 n.id (RR l').1
 same:m.id=n.id/\m.version=n.version/\m.bad=n.bad
theorem vK.refl {s:StD}{n:zq}{l:List (List UInt8)}(h:za9 s n l):vK s n l n l:=⟨h,U0 _,U0 _,U0 _,λh=>h,rfl,rfl,rfl⟩
theorem vK.trans {s:StD}{a b c:zq}{l m k:List (List UInt8)}(h:vK s a l b m)(g:vK s b m c k):vK s a l c k:=
 ⟨g.inv,h.recs.trans g.recs,h.acc.trans g.acc,h.log.trans g.log,(λx=>by have:=g.ids (by rw [h.same.1];exact h.ids x);rwa [h.same.1] at this),g.same.1.trans h.same.1,g.same.2.1.trans h.same.2.1,g.same.2.2.trans h.same.2.2⟩
theorem zka {l:List (List UInt8)}{k:UInt8}{d:List UInt8}(hk:k≠109):RR (l++ [k::d])=((RR l).1,vl (RR l).2 (k::d)):=by
 rw [zd2];unfold jU;simp only;rw [if_neg (λh=>hk h.1)]
theorem xJ.more {n m:zq}{s:StD}{vals:List (List UInt8)}{l:List (List UInt8)}(h:xJ n s (RR l).2.known vals)(k:List (List UInt8))(h1:m.applied=n.applied)(h2:m.loc=n.loc)(h3:m.version=n.version)(h4:m.bad=n.bad):xJ m s (RR (l++k)).2.known vals:=
 ⟨h.1.trans h1.symm,by rw [h2,h3,h4];exact h.2.1,λj x hj=>(zj8 l k).2.1 _ _ (h.2.2 j x hj)⟩
theorem za9.same {s:StD}{n m:zq}{l:List (List UInt8)}(h:za9 s n l)(hs:xK n m)(h1:m.applied=n.applied)(h2:m.loc=n.loc):za9 s m l:=by
 obtain⟨vals,hv⟩:=h.loc;refine⟨by rw [hs.store];exact h.kept,λhd=>?_,by rw [hs.acc];exact h.acc,vals,?_⟩
 ·rw [hs.store,hs.acc,hs.pax];exact h.up (by rw [← hs.down];exact hd)
 exact⟨hv.1.trans h1.symm,by rw [h2,hs.version,hs.bad];exact hv.2.1,hv.2.2⟩
theorem XG {s:StD}{n:zq}{l:List (List UInt8)}(h:za9 s n l)(hd:n.down=false)(p:xM)(k:UInt8)(d:List UInt8)(hk:k≠109)(hp:p=vl n.pax (k::d)):
 ∃l',vK s n l (yk {n with pax:=p} true (k::d)).1 l'/\((yk {n with pax:=p} true (k::d)).2=0->l'=l++ [k::d] /\(yk {n with pax:=p} true (k::d)).1.down=false)/\((yk {n with pax:=p} true (k::d)).2≠0->(yk {n with pax:=p} true (k::d)).1.down=true):=by
 obtain⟨hc,ha,hx⟩:=h.up hd;obtain⟨vals,hv⟩:=h.loc;have ab:=zka (l:=l) (d:=d) hk;unfold yk;simp only
 rcases Q5 h.kept (k::d)with⟨h1, -,h3,h4⟩|⟨h1,h2,h3⟩|⟨h1,h2⟩
 ·refine⟨l++ [k::d],⟨⟨h4,λ_=>⟨h3,?_,?_⟩,?_,vals,hv.more _ rfl rfl rfl rfl⟩,List.prefix_append _ _,U0 _,U0 _,(λx=>by rw [ab];exact x),rfl,rfl,rfl⟩,λ_=>⟨rfl,?_⟩,λh=>absurd h1 h⟩
  ·show n.acc=_;rw [ab];exact ha
  ·show p=_;rw [ab,hp,hx]
  ·show n.acc<+:_;rw [ab];exact h.acc
  rw [h1,hd];rfl
 ·have aa:(n.down||decide ((jb n.store (k::d)).2=31)||(true && decide ((jb n.store (k::d)).2≠0)))=true:=by rw [h1];simp
  have ac:∀l'',((n.down||decide ((jb n.store (k::d)).2=31)||(true && decide ((jb n.store (k::d)).2≠0)))=false->(jb n.store (k::d)).1.crashed=false/\n.acc=(RR l'').1/\p=(RR l'').2):=λl'' h=>by rw [aa] at h;cases h
  rcases h3 with h3|h3
  ·exact⟨l,⟨⟨h3,ac l,h.acc,vals,hv⟩,U0 _,U0 _,U0 _,(λh=>h),rfl,rfl,rfl⟩,λh=>by rw [h1] at h;simp at h,λ_=>aa⟩
  refine⟨l++ [k::d],⟨⟨h3,ac _,?_,vals,hv.more _ rfl rfl rfl rfl⟩,List.prefix_append _ _,U0 _,U0 _,(λx=>by rw [ab];exact x),rfl,rfl,rfl⟩,λh=>by rw [h1] at h;simp at h,λ_=>aa⟩
  show n.acc<+:_;rw [ab];exact h.acc
 have aa:(n.down||decide ((jb n.store (k::d)).2=31)||(true && decide ((jb n.store (k::d)).2≠0)))=true:=by rw [h1];simp
 refine⟨l,⟨⟨by show zf5 (jb n.store (k::d)).1 l;rw [h2];exact h.kept,λh=>?_,h.acc,vals,hv⟩,U0 _,U0 _,U0 _,(λh=>h),rfl,rfl,rfl⟩,λh=>by rw [h1] at h;simp at h,λ_=>aa⟩;have h':(n.down||decide ((jb n.store (k::d)).2=31)||(true && decide ((jb n.store (k::d)).2≠0)))=false:=h;rw [aa] at h';cases h'
theorem zct {s:StD}{n:zq}{l:List (List UInt8)}(h:za9 s n l)(i:Int)(b:Nat)(hb:b<18446744073709551616):∃l',vK s n l (zy n i b).1 l'/\((zy n i b).2.2=0->b<=(ja (RR l').2 i).1):=by
 unfold zy
 by_cases hd:n.down=false
 ·rw [if_neg (by rw [hd];simp)]
  by_cases he:(zA n.pax i b).2.2.2≠0
  ·rw [if_pos he];exact⟨l,vK.refl h,λh=>absurd h he⟩
  rw [if_neg he]
  obtain⟨h1,h2,h3,h4,h5,h6⟩:=za3 hb (Decidable.not_not.1 he);have aa:(zA n.pax i b).2.2.1=112::(le4 (i.toNat % 4294967296)++le8 b):=by rw [h2];rfl
  obtain⟨l',k1,k2,k3⟩:=XG h hd (zA n.pax i b).1 112 (le4 (i.toNat % 4294967296)++le8 b) (by decide) (by rw [← aa];exact h1.symm);rw [← aa] at k1 k2 k3
  split
  ·rename_i hq;exact⟨l',k1,λh=>absurd h hq⟩
  rename_i hq
  refine⟨l',k1,λ_=>?_⟩;have ab:=k2 (Decidable.not_not.1 hq);have hp:=(k1.inv.up ab.2).2.2;have ac:(zA n.pax i b).1=(RR l').2:=hp;rw [← ac,h6]
  show b<=((zH i (put i _ n.pax.votes)).getD (0,0,[])).1
  rw [yF,if_pos rfl];exact N0 _
 rw [if_pos (by simpa using hd)]
 exact⟨l,vK.refl h,λh=>by simp at h⟩
theorem zcu {s:StD}{n:zq}{l:List (List UInt8)}(h:za9 s n l)(i:Int)(b:Nat)(x:List UInt8)(hb:b<18446744073709551616):∃l',vK s n l (yH n i b x).1 l':=by
 unfold yH
 by_cases hd:n.down=false
 ·rw [if_neg (by rw [hd];simp)]
  by_cases he:(vJ n.pax i b x).2.2≠0
  ·rw [if_pos he];exact⟨l,vK.refl h⟩
  rw [if_neg he]
  obtain⟨h1, -, -, -, -, -,h2⟩:=zf8 hb (Decidable.not_not.1 he);have aa:(vJ n.pax i b x).2.1=118::(le4 (i.toNat % 4294967296)++(le8 b++x)):=by rw [h2];rfl
  obtain⟨l',k1, -, -⟩:=XG h hd (vJ n.pax i b x).1 118 (le4 (i.toNat % 4294967296)++(le8 b++x)) (by decide) (by rw [← aa];exact h1.symm);rw [← aa] at k1;exact⟨l',k1⟩
 rw [if_pos (by simpa using hd)]
 exact⟨l,vK.refl h⟩
theorem Q8 {s:StD}{n:zq}{l:List (List UInt8)}(h:za9 s n l)(hd:n.down=false)(k:Nat):vK s n l (jB k n).1 l:=by
 obtain⟨hc,ha,hx⟩:=h.up hd;obtain⟨vals,hv⟩:=h.loc;have aa:xJ n s n.pax.known vals:=by rw [hx];exact hv
 obtain⟨hs,more,h1, -⟩:=XF s k n vals aa;rw [hx] at h1;refine⟨⟨by rw [hs.store];exact h.kept,λ_=>by rw [hs.store,hs.acc,hs.pax];exact⟨hc,ha,hx⟩,by rw [hs.acc];exact h.acc,_,h1⟩,U0 _,by rw [hs.acc];exact U0 _,?_,λh=>h,hs.id,hs.version,hs.bad⟩;rw [h1.2.1,hv.2.1,hs.version,hs.bad];exact zcr _ _ _ _ _
theorem Ve {s:StD}{n:zq}{l:List (List UInt8)}(h:za9 s n l)(i:Int)(x:List UInt8):∃l',vK s n l (jd n i x).1 l':=by
 unfold jd
 by_cases hd:n.down=false
 ·rw [if_neg (by rw [hd];simp)]
  by_cases he:(zV n.pax i x).2.2≠0
  ·rw [if_pos he];exact⟨l,vK.refl h⟩
  rw [if_neg he]
  by_cases hr:(zV n.pax i x).2.1=[]
  ·rw [if_pos hr]
   have aa:(zV n.pax i x).1=n.pax:=zf9 (.inr hr);rw [aa];exact⟨l,Q8 h hd _⟩
  rw [if_neg hr]
  obtain⟨h1, -, -, -, -, -,h2⟩:=zdZ (Decidable.not_not.1 he) hr;have ab:(zV n.pax i x).2.1=100::(le4 (i.toNat % 4294967296)++x):=by rw [h2];rfl
  obtain⟨l',k1,k2,k3⟩:=XG h hd (zV n.pax i x).1 100 (le4 (i.toNat % 4294967296)++x) (by decide) (by rw [← ab];exact h1.symm);rw [← ab] at k1 k2 k3
  generalize yk {n with pax:=(zV n.pax i x).1} true (zV n.pax i x).2.1=q at*
  by_cases hq:q.2≠0
  ·exact⟨l',by simp only [if_pos hq];exact k1⟩
  have ac:=k2 (Decidable.not_not.1 hq)
  exact⟨l',by simp only [if_neg hq];exact k1.trans (Q8 k1.inv ac.2 _)⟩
 rw [if_pos (by simpa using hd)]
 exact⟨l,vK.refl h⟩
theorem zgd {m:zx}(h:zz m=true)(q:List zx×xM):jU q ([109] ++(yj [m]).1)=(q.1++ [m],q.2):=by
 have hp:=za4 h;have hu:=XC (l:=[m]) (by rw [hp])
 show jU q (109::(yj [m]).1)=_
 unfold jU;simp only;rw [hu,if_pos (by simp)]
theorem QB {s:StD}{n:zq}{l:List (List UInt8)}(h:za9 s n l)(d:List UInt8):
 ∃l',vK s n l (zG n d).1 l'/\((zG n d).2.2=0->(zG n d).2.1.1=(n.id,n.acc.length+1)/\(zG n d).1.acc=n.acc++ [(zG n d).2.1] /\n.down=false):=by
 unfold zG
 by_cases hd:n.down=false
 ·rw [if_neg (by rw [hd];simp)]
  obtain⟨hc,ha,hx⟩:=h.up hd;obtain⟨vals,hv⟩:=h.loc
  by_cases hr:zz ((n.id,n.acc.length+1),d)=false
  ·rw [if_pos hr];exact⟨l,vK.refl h,λh=>by simp at h⟩
  rw [if_neg hr]
  have ah:zz ((n.id,n.acc.length+1),d)=true:=by simpa using hr
  have ad:=zgd ah (RR l)
  generalize hmm:((n.id,n.acc.length+1),d)=m at*
  generalize [109] ++(yj [m]).1=rec at*
  have ac:RR (l++ [rec])=((RR l).1++ [m],(RR l).2):=by rw [zd2];exact ad
  have ab:zj9 n.id (RR l).1->zj9 n.id (RR (l++ [rec])).1:=λx j y hj=>by
   rw [ac] at hj;have aa:((RR l).1++ [m])[j]?=some y:=hj
   rcases Nat.lt_or_ge j (RR l).1.length with hlt|hge
   ·rw [U8 hlt] at aa;exact x j y aa
   rw [U6 hge] at aa
   have ai:j=(RR l).1.length:=by
    have:=(N6.1 aa).1;simp at this;omega
   subst ai;simp at aa
   rw [← aa,← hmm,ha]
  unfold yk;simp only [Bool.false_and,Bool.or_false]
  rcases Q5 h.kept rec with⟨h1, -,h3,h4⟩|⟨h1,h2,h3⟩|⟨h1,h2⟩
  ·rw [if_neg (by rw [h1];simp)]
   have ho:=vL (n.acc.length+1) {n with store:=(jb n.store rec).1,down:=n.down||decide ((jb n.store rec).2=31),acc:=n.acc++ [m] };have af:(n.down||decide ((jb n.store rec).2=31))=false:=by rw [h1,hd];rfl
   have ae:za9 s {n with store:=(jb n.store rec).1,down:=n.down||decide ((jb n.store rec).2=31),acc:=n.acc++ [m] } (l++ [rec]):=
    ⟨h4,λ_=>⟨h3,by show n.acc++ [m]=_;rw [ac,ha],by show n.pax=_;rw [ac,hx]⟩,by show n.acc++ [m] <+:_;rw [ac,ha];exact U0 _,vals,hv.more _ rfl rfl rfl rfl⟩
   refine⟨l++ [rec],⟨ae.same ho.1 ho.2.2 ho.2.1,List.prefix_append _ _,?_,?_,ab,ho.1.id,ho.1.version,ho.1.bad⟩,λ_=>⟨?_,ho.1.acc,hd⟩⟩
   ·rw [ho.1.acc];exact List.prefix_append _ _
   ·rw [ho.2.1];exact U0 _
   show m.1=_;rw [← hmm]
  ·rw [if_pos (by rw [h1];simp)]
   have af:(n.down||decide ((jb n.store rec).2=31))=true:=by rw [h1];simp
   have ag:∀l'',((n.down||decide ((jb n.store rec).2=31))=false->(jb n.store rec).1.crashed=false/\n.acc=(RR l'').1/\n.pax=(RR l'').2):=λl'' h=>by rw [af] at h;cases h
   rcases h3 with h3|h3
   ·exact⟨l,⟨⟨h3,ag l,h.acc,vals,hv⟩,U0 _,U0 _,U0 _,(λh=>h),rfl,rfl,rfl⟩,λh=>by rw [h1] at h;simp at h⟩
   refine⟨l++ [rec],⟨⟨h3,ag _,?_,vals,hv.more _ rfl rfl rfl rfl⟩,List.prefix_append _ _,U0 _,U0 _,ab,rfl,rfl,rfl⟩,λh=>by rw [h1] at h;simp at h⟩
   show n.acc<+:_;rw [ac];exact h.acc.trans (List.prefix_append _ _)
  rw [if_pos (by rw [h1];simp)]
  have af:(n.down||decide ((jb n.store rec).2=31))=n.down:=by rw [h1];simp
  refine⟨l,⟨⟨by show zf5 (jb n.store rec).1 l;rw [h2];exact h.kept,λ_=>?_,h.acc,vals,hv⟩,U0 _,U0 _,U0 _,(λh=>h),rfl,rfl,rfl⟩,λh=>by rw [h1] at h;simp at h⟩
  show(jb n.store rec).1.crashed=false/\_;rw [h2];exact⟨hc,ha,hx⟩
 rw [if_pos (by simpa using hd)]
 exact⟨l,vK.refl h,λh=>by simp at h⟩
theorem zh4 {s:StD}{n:zq}{l:List (List UInt8)}(h:za9 s n l)(v:Int):vK s n l (JR n v).1 l:=by
 unfold JR
 split
 ·exact vK.refl h
 split
 ·exact vK.refl h
 exact⟨h.same ⟨rfl,rfl,rfl,rfl,rfl,rfl,rfl⟩ rfl rfl,U0 _,U0 _,U0 _,(λh=>h),rfl,rfl,rfl⟩
theorem zkb {s:StD}{n:zq}{l:List (List UInt8)}(h:za9 s n l)(k:Int):vK s n l (zk1 n k).1 l:=by
 unfold zk1
 split
 ·exact vK.refl h
 have hk:=zj7 h.kept k
 obtain⟨vals,hv⟩:=h.loc;exact⟨⟨hk.1,λhd=>⟨hk.2.trans (h.up hd).1,(h.up hd).2⟩,h.acc,vals,hv⟩,U0 _,U0 _,U0 _,(λh=>h),rfl,rfl,rfl⟩
theorem zge {s:StD}{n:zq}{l:List (List UInt8)}(h:za9 s n l):vK s n l (Xw n).1 l:=by
 unfold Xw
 split
 ·exact vK.refl h
 obtain⟨vals,hv⟩:=h.loc
 exact⟨⟨h.kept,(λhd=>absurd hd (by simp)),h.acc,vals,hv⟩,U0 _,U0 _,U0 _,(λh=>h),rfl,rfl,rfl⟩
theorem zcv {known:List (Int×List UInt8)}(hk:yq known){a b:List (List UInt8)}(ha:∀(j:Nat)(x:List UInt8),a[j]?=some x->zH ((j:Int)+1) known=some x)(hb:∀(j:Nat)(x:List UInt8),b[j]?=some x->zH ((j:Int)+1) known=some x)
 (he:zH ((b.length:Int)+1) known=none∨b.length=10001):a<+:b:=by
 have aa:a.length<=b.length:=by
  rcases Nat.lt_or_ge b.length a.length with h|h
  ·exfalso
   obtain⟨x,hx⟩:∃x,a[b.length]?=some x:=⟨_,N3 h⟩;have h1:=ha _ _ hx
   rcases he with he|he
   ·rw [he] at h1;cases h1
   have:=hk _ _ h1;omega
  exact h
 rw [List.prefix_iff_eq_take]
 apply List.ext_getElem?
 intro j;rw [List.getElem?_take]
 split
 ·rename_i hj
  obtain⟨x,hx⟩:∃x,a[j]?=some x:=⟨_,N3 hj⟩;obtain⟨y,hy⟩:∃y,b[j]?=some y:=⟨_,N3 (by omega)⟩;have h1:=ha _ _ hx;have h2:=hb _ _ hy;rw [h1] at h2;cases h2
  rw [hx,hy]
 rename_i hj;rw [List.getElem?_eq_none (by omega)]
theorem zcw {s:StD}{n:zq}{l:List (List UInt8)}(h:za9 s n l):vK s n l (xS n s) l/\(xS n s).down=false:=by
 obtain⟨r1,r2,r3⟩:=zch h.kept;obtain⟨vals,hv⟩:=h.loc;unfold xS;simp only;rw [r1,za7]
 generalize hm:({ZY {n with store:=(yP n.store).1} s with acc:=(l.foldl jU ((ZY {n with store:=(yP n.store).1} s).acc,(ZY {n with store:=(yP n.store).1} s).pax)).1,pax:=(l.foldl jU ((ZY {n with store:=(yP n.store).1} s).acc,(ZY {n with store:=(yP n.store).1} s).pax)).2} :zq)=m
 have m1:m.acc=(RR l).1:=by rw [← hm];rfl
 have m2:m.pax=(RR l).2:=by rw [← hm];rfl
 have m3:m.store=(yP n.store).1:=by rw [← hm];rfl
 have m4:m.id=n.id/\m.version=n.version/\m.bad=n.bad:=by rw [← hm];exact⟨rfl,rfl,rfl⟩
 have hA:xJ m s m.pax.known []:=⟨by rw [← hm];rfl,by rw [← hm];rfl,λj x hj=>by simp at hj⟩;obtain⟨hs,more,h1,h2⟩:=XF s 10001 m [] hA;rw [List.nil_append] at h1 h2;rw [m2] at h1 h2;have ho:=vL ((jB 10001 m).1.acc.length+1) (jB 10001 m).1
 generalize jR ((jB 10001 m).1.acc.length+1) (jB 10001 m).1=q at*
 have hq:xK m q:=hs.trans ho.1;have ab:xJ q s (RR l).2.known more:=⟨h1.1.trans ho.2.2.symm,by rw [ho.2.1,h1.2.1,ho.1.version,ho.1.bad],h1.2.2⟩;have aa:=zcv (za8 l) hv.2.2 h1.2.2 h2;refine⟨⟨⟨by show zf5 q.store l;rw [hq.store,m3];exact r2,λ_=>⟨by show q.store.crashed=false;rw [hq.store,m3];exact r3,by show q.acc=_;rw [hq.acc,m1],by show q.pax=_;rw [hq.pax,m2]⟩,by show q.acc<+:_;rw [hq.acc,m1];exact U0 _,more,ab⟩,U0 _,?_,?_,(λh=>h),hq.id.trans m4.1,hq.version.trans m4.2.1,hq.bad.trans m4.2.2⟩,by first|exact rfl|exact trivial⟩
 ·show n.acc<+:q.acc;rw [hq.acc,m1];exact h.acc
 show n.loc.log<+:q.loc.log
 rw [ab.2.1,hv.2.1,hq.version,hq.bad,m4.2.1,m4.2.2];obtain⟨t,ht⟩:=aa;rw [← ht];exact zcr _ _ _ _ _
structure zl2 where
 what:Int
 inst:Int
 b:Nat
 s:List UInt8
def zcx(x:zl2):List UInt8:=if x.b=77 then List.replicate 1100 0 else x.s.take 300
def zcy(x:zl2):Nat:=(x.what % 18446744073709551616).toNat % 9
def zd4(s:StD)(n:zq)(x:zl2):zq:=
 if zcy x=0 then(zG n (zcx x)).1
 else if zcy x=1 then(zy n x.inst x.b).1
 else if zcy x=2 then(yH n x.inst x.b (zcx x)).1
 else if zcy x=3 then(jd n x.inst (zcx x)).1
 else if zcy x=4 then(JR n x.inst).1
 else if zcy x=5 then(zk1 n x.inst).1
 else if zcy x=6 then(Xw n).1
 else if zcy x=7 then xS n s
 else if(jN n).2 then(jd n (yE n) (jN n).1).1 else n
theorem zcz {s:StD}{n:zq}{l:List (List UInt8)}(h:za9 s n l)(x:zl2)(hb:x.b<18446744073709551616):∃l',vK s n l (zd4 s n x) l':=by
 unfold zd4
 split
 ·obtain⟨l',h1, -⟩:=QB h (zcx x);exact⟨l',h1⟩
 split
 ·obtain⟨l',h1, -⟩:=zct h x.inst x.b hb;exact⟨l',h1⟩
 split
 ·exact zcu h x.inst x.b (zcx x) hb
 split
 ·exact Ve h x.inst (zcx x)
 split
 ·exact⟨l,zh4 h _⟩
 split
 ·exact⟨l,zkb h _⟩
 split
 ·exact⟨l,zge h⟩
 split
 ·exact⟨l,(zcw h).1⟩
 split
 ·exact Ve h _ _
 exact⟨l,vK.refl h⟩
def zhq(id v cap:Int)(bad:List Int)(s:StD):zq:={id:=id,version:=v,bad:=bad,store:=Zi cap,pax:=qx,loc:=zjz v s,pool:=Zj,acc:=[],offered:=0,applied:=0,wanted:=0,down:=false}
theorem zkc(id v cap:Int)(bad:List Int)(s:StD):za9 s (zhq id v cap bad s) []:=⟨za1 cap,λ_=>⟨rfl,rfl,rfl⟩,U0 _,[],rfl,rfl,λj x hj=>by simp at hj⟩
def vx(s:yv):Prop:=(s.log.length:Int)<=s.cap/\s.cap<=1048576/\0<=s.keep
theorem zh5 {s:yv}(h:vx s)(d:List UInt8):vx (jb s d).1/\(jb s d).1.cap=s.cap:=by
 obtain⟨h1,h2,h3⟩:=h;unfold jb
 split
 ·exact⟨⟨h1,h2,h3⟩,rfl⟩
 split
 ·exact⟨⟨h1,h2,h3⟩,rfl⟩
 split
 ·exact⟨⟨h1,h2,h3⟩,rfl⟩
 rename_i hc
 split
 ·refine⟨⟨?_,h2,h3⟩,rfl⟩
  show(((s.log++(zJ d).1).length:Nat):Int)<=s.cap
  rw [N1];omega
 refine⟨⟨?_,h2,Int.le_refl _⟩,rfl⟩
 show(((s.log++(zJ d).1.take (min s.keep ((zJ d).1.length:Int)).toNat).length:Nat):Int)<=s.cap
 rw [N1,N7];omega
theorem zlv {s:yv}(h:vx s)(k:Int):vx (zlu s k).1:=by
 obtain⟨h1,h2,h3⟩:=h;unfold zlu
 split
 ·exact⟨h1,h2,h3⟩
 split
 ·exact⟨h1,h2,h3⟩
 exact⟨h1,h2,by show 0<=k;omega⟩
theorem zd5 {s:yv}(h:vx s):vx (yP s).1:=by
 obtain⟨h1,h2,h3⟩:=h;unfold yP;refine⟨?_,h2,Int.le_refl _⟩
 show((s.log.take (zaZ s.log.length s.log).2).length:Int)<=s.cap
 rw [N7];omega
theorem zcA {cap:Int}(h1:64<=cap)(h2:cap<=1048576):vx (Zi cap):=⟨by simp [Zi];omega,h2,Int.le_refl _⟩
theorem Jl {n:zq}(h:vx n.store)(b:Bool)(d:List UInt8):vx (yk n b d).1.store:=(zh5 h d).1
theorem xK.cap {n m:zq}(hs:xK n m)(h:vx n.store):vx m.store:=by rw [hs.store];exact h
def XH(s:StD)(n:zq):Prop:=(∃l,za9 s n l)/\vx n.store
theorem vM:∀(k:Nat)(n:zq),xK n (jB k n).1
 |0,n=>xK.refl n
 |k+1,n=>by
  unfold jB
  cases zH ((n.applied:Int)+1) n.pax.known with
  |none=>exact xK.refl n
  |some x=>
   simp only
   split
   ·have h:=vM k {n with applied:=n.applied+1}
    exact⟨h.id,h.version,h.bad,h.store,h.pax,h.acc,h.down⟩
   have h1:=(Vd {n with applied:=n.applied+1} (jq x).1).1
   have h:=vM k (vW {n with applied:=n.applied+1} (jq x).1).1;exact xK.trans ⟨h1.id,h1.version,h1.bad,h1.store,h1.pax,h1.acc,h1.down⟩ h
theorem zba {n:zq}(h:vx n.store)(d:List UInt8):vx (zG n d).1.store:=by
 unfold zG
 split
 ·exact h
 split
 ·exact h
 split
 ·exact Jl h _ _
 exact(vL _ _).1.cap (Jl (n:=n) h false ([109] ++(yj [((n.id,n.acc.length+1),d)]).1))
theorem zd6 {n:zq}(h:vx n.store)(i:Int)(b:Nat):vx (zy n i b).1.store:=by
 unfold zy
 split
 ·exact h
 split
 ·exact h
 split
 ·exact Jl (n:={n with pax:=(zA n.pax i b).1}) h _ _
 exact Jl (n:={n with pax:=(zA n.pax i b).1}) h _ _
theorem zfa {n:zq}(h:vx n.store)(i:Int)(b:Nat)(x:List UInt8):vx (yH n i b x).1.store:=by
 unfold yH
 split
 ·exact h
 split
 ·exact h
 exact Jl (n:={n with pax:=(vJ n.pax i b x).1}) h _ _
theorem XI {n:zq}(h:vx n.store)(i:Int)(x:List UInt8):vx (jd n i x).1.store:=by
 unfold jd
 split
 ·exact h
 simp only
 split
 ·exact h
 split
 ·exact(vM _ _).cap h
 have hk:=Jl (n:={n with pax:=(zV n.pax i x).1}) h true (zV n.pax i x).2.1
 split
 ·exact hk
 exact(vM _ _).cap hk
theorem zcB {s:StD}{n:zq}(h:vx n.store):vx (xS n s).store:=by
 unfold xS;simp only;rw [za7];have hr:=zd5 h;exact(vL _ _).1.cap ((vM _ _).cap hr)
theorem XH.step {s:StD}{n m:zq}{l l':List (List UInt8)}(h:vK s n l m l')(hc:vx m.store):XH s m:=⟨⟨l',h.inv⟩,hc⟩
theorem zlw {s:StD}{n:zq}(h:XH s n)(x:zl2)(hb:x.b<18446744073709551616):XH s (zd4 s n x):=by
 obtain⟨⟨l,hi⟩,hc⟩:=h;obtain⟨l',hs⟩:=zcz hi x hb;refine⟨⟨l',hs.inv⟩,?_⟩;unfold zd4
 split
 ·exact zba hc _
 split
 ·exact zd6 hc _ _
 split
 ·exact zfa hc _ _ _
 split
 ·exact XI hc _ _
 split
 ·unfold JR;split
  ·exact hc
  split<;>exact hc
 split
 ·unfold zk1;split
  ·exact hc
  exact zlv hc _
 split
 ·unfold Xw;split<;>exact hc
 split
 ·exact zcB hc
 split
 ·exact XI hc _ _
 exact hc
theorem zfb(l:List (List UInt8)):(RR l).1.length<=l.length:=by
 suffices h:∀(l:List (List UInt8)) (q:List zx×xM),(l.foldl jU q).1.length<=q.1.length+l.length by simpa [RR] using h l ([],qx)
 intro l
 induction l with
 |nil=>intro q;simp
 |cons r l ih=>
  intro q;have h1:=ih (jU q r)
  have h2:(jU q r).1.length<=q.1.length+1:=by
   unfold jU
   cases r with
   |nil=>simp
   |cons k d=>
    simp only
    split
    ·rename_i h;rw [N1,h.2.2];omega
    simp
  rw [List.foldl_cons,List.length_cons];omega
theorem zlx(v:Int)(bad:List Int)(s:StD):∀(vals:List (List UInt8)),xf (zcp v bad s vals) vals.length:=by
 suffices h:∀(vals:List (List UInt8)) (L:zQ) (k:Nat),xf L k->xf (vals.foldl (qJ bad) L) (k+vals.length)by
  intro vals;have:=h vals (zjz v s) 0 (zml v s)
  rwa [Nat.zero_add] at this
 intro vals
 induction vals with
 |nil=>intro L k h;exact h
 |cons x vals ih=>
  intro L k h
  have h1:xf (qJ bad L x) (k+1):=by
   unfold qJ
   split
   ·exact h.mono (by omega)
   exact za6 h _ _
  have:=ih _ _ h1;rw [List.foldl_cons,List.length_cons,show k+(vals.length+1)=k+1+vals.length by omega];exact this
theorem zh6 {known:List (Int×List UInt8)}(hk:yq known){a:List (List UInt8)}(ha:∀(j:Nat)(x:List UInt8),a[j]?=some x->zH ((j:Int)+1) known=some x):a.length<=10000:=by
 rcases Nat.lt_or_ge 10000 a.length with h|h
 ·exfalso
  obtain⟨x,hx⟩:∃x,a[10000]?=some x:=⟨_,N3 h⟩;have:=hk _ _ (ha _ _ hx);omega
 exact h
theorem XH.bounds {s:StD}{n:zq}(h:XH s n):n.store.log.length<=1048576/\n.acc.length<=116508/\n.applied<=10000/\xf n.loc n.applied:=by
 obtain⟨⟨l,hi⟩,h1,h2,h3⟩:=h;obtain⟨ab,ac,hl, -, -⟩:=hi.kept;obtain⟨vals,hv⟩:=hi.loc;have hr:=ze8 ab;have ha:=zfb l;have hp:=hi.acc.length_le;have aa:(recs l).length<=n.store.log.length:=by rw [hl,N1];omega
 refine⟨by omega,by omega,?_,?_⟩
 ·rw [← hv.1];exact zh6 (za8 l) hv.2.2
 rw [hv.2.1,← hv.1];exact zlx _ _ _ _
def zna:List UInt8->List UInt8->List UInt8
 | [],_=>[]
 |b::l,[]=>b::l
 |b::l,c::m=>(b ^^^ c)::zna l m
def zmQ(mask r:Nat):List UInt8:=(le4 (mask*2 ^ r))++ [UInt8.ofNat (mask*2 ^ r / 4294967296)]
def zd7(s:List UInt8)(bit:Int)(mask:Nat):List UInt8×Int:=
 if bit<0∨(s.length:Int)<=bit / 8 then([],2)
 else(s.take (bit.toNat / 8)++zna (s.drop (bit.toNat / 8)) (zmQ mask (bit.toNat % 8)),0)
structure yQ where
 wire:Int
 kind:Int
 src:Int
 dst:Int
 life:Nat
 seq:Nat
 ack:Nat
 hint:Nat
 data:List UInt8
deriving DecidableEq
def Yu(f:yQ):Bool:=(decide (f.wire=1)||decide (f.wire=2))&& decide (0<=f.kind)&& decide (f.kind<=31)&& decide (f.data.length<=4096)&& decide (0<=f.src)&& decide (f.src<16)&& decide (0<=f.dst)&& decide (f.dst<16)&&(decide (f.wire=2)||decide (f.hint=0))
def yW(i:Int):UInt8:=UInt8.ofNat (i % 256).toNat
def qU(f:yQ):List UInt8×Int:=
 if Yu f=false then([],20)
 else(Zh ([72,yW f.wire,yW f.kind,yW (f.src*16+f.dst)] ++le4 f.life++le4 f.seq++le4 f.ack++(if f.wire=2 then le4 f.hint else [])++le4 f.data.length++f.data),0)
def zW(b:List UInt8)(i:Nat):Nat:=vU ((b.drop i).take 4)
def vy(b:List UInt8)(i:Nat):Nat:=((b.drop i).head?.getD 0).toNat
def JT:yQ:=⟨0,0,0,0,0,0,0,0,[]⟩
def zmm(b:List UInt8):yQ×Int:=
 if b.length<2∨vy b 0≠72 then(JT,20)
 else if vy b 1≠1/\vy b 1≠2 then(JT,22)
 else if vy b 1=1 then
  (if b.length<20 then(JT,20)
   else if zW b 16=b.length - 20/\Yu ⟨1,vy b 2,vy b 3 / 16,vy b 3 % 16,zW b 4,zW b 8,zW b 12,0,b.drop 20⟩=true then(⟨1,vy b 2,vy b 3 / 16,vy b 3 % 16,zW b 4,zW b 8,zW b 12,0,b.drop 20⟩,0)
   else(JT,20))
 else
  (if b.length<24 then(JT,20)
   else if zW b 20=b.length - 24/\Yu ⟨2,vy b 2,vy b 3 / 16,vy b 3 % 16,zW b 4,zW b 8,zW b 12,zW b 16,b.drop 24⟩=true then(⟨2,vy b 2,vy b 3 / 16,vy b 3 % 16,zW b 4,zW b 8,zW b 12,zW b 16,b.drop 24⟩,0)
   else(JT,20))
def zgf(s:List UInt8):yQ×Int:=match ZH s with|none=>(JT,21)|some b=>zmm b
abbrev zgg:=Nat×Int×List UInt8
abbrev Yv:=Int×Int×zx
structure ye where
 inst:Int
 ballot:Nat
 value:List UInt8
 promises:List jE
 promised:List Bool
 voted:List Bool
 votes:Nat
 asked:Bool
 told:Bool
structure jV where
 greatest:Nat
 accepted:Nat
 delivered:Nat
 stale:Bool
 lent:Bool
structure zf where
 nodes:List zq
 seats:List jV
 leads:List (Int×ye)
 last:Nat
 notes:List zgg
 hurt:List (Nat×Unit)
 trace:List Yv
def yX:jV:=⟨0,0,0,false,false⟩
def Zn(n:Nat)(v cap:Int)(s:StD):zf:={nodes:=(List.range n).map λ(i:Nat)=>zhq i v cap [] s,seats:=List.replicate n yX,leads:=[],last:=0,notes:=[],hurt:=[],trace:=[] }
def zn(w:zf)(i:Nat):zq:=w.nodes[i]?.getD (zhq 0 0 0 [] (0,0,[]))
def jj(w:zf)(i:Nat):jV:=w.seats[i]?.getD yX
def setNode(w:zf)(i:Nat)(n:zq):zf:={w with nodes:=w.nodes.set i n}
def setSeat(w:zf)(i:Nat)(s:jV):zf:={w with seats:=w.seats.set i s}
def qk(w:zf)(i:Nat):zf:=setSeat w i {jj w i with stale:=true}
def ji(kind src dst:Int)(inst:Int)(ballot:Nat)(more:List UInt8):yQ:=⟨1,kind,src,dst,0,0,0,0,le4 (inst % 4294967296).toNat++le8 ballot++more⟩
def yr(w:zf)(dst:Int)(s:List UInt8):zf×Nat×Int:=
 if 1000<=w.notes.length then(w,0,30)else({w with last:=(w.last+1)% 4294967296,notes:=w.notes++ [((w.last+1)% 4294967296,dst,s)] },(w.last+1)% 4294967296,0)
def y8(w:zf)(f:yQ):zf:=if(qU f).2=0 then(yr w f.dst (qU f).1).1 else w
def j1(w:zf)(kind src inst:Int)(ballot:Nat)(more:List UInt8):zf:=(List.range w.nodes.length).foldl (λw (i:Nat)=>y8 w (ji kind src i inst ballot more)) w
def jt(b:Nat)(node:Nat):Nat×Int:=if 16<=node∨1152921504606846976<b then(0,2)else if b / 16*16+node<=b then(b / 16*16+node+16,0)else(b / 16*16+node,0)
def yo(w:zf)(i:Nat):zf×Int:=
 if(zn w i).down then(w,170)
 else if(jt (jj w i).greatest i).2≠0 then(w,(jt (jj w i).greatest i).2)
 else
  let b:=(jt (jj w i).greatest i).1
  let l:ye:={inst:=yE (zn w i),ballot:=b,value:=(jN (zn w i)).1,promises:=[],promised:=List.replicate 16 false,voted:=List.replicate 16 false,votes:=0,asked:=false,told:=false}
  (j1 {setSeat w i {jj w i with greatest:=b} with leads:=put (i:Int) l w.leads} 3 i (yE (zn w i)) b [],0)
def Zo(n:Nat)(ps:List jE)(own:List UInt8):List UInt8×Int:=
 if n<ps.length∨2*ps.length<=n then([],81)
 else if ps.all j9=false∨4000<own.length then([],2)
 else((ps.foldl (λ(b:jE) v=>if b.2.1<v.2.1 then v else b) (0,0,own)).2.2,0)
def countPromise(w:zf)(i:Nat)(src:Nat)(inst:Int)(ballot:Nat)(more:List UInt8):zf:=
 match zH (i:Int) w.leads with
 |none=>w
 |some l=>
  if l.inst≠inst∨l.ballot≠ballot∨l.asked∨l.promised[src]?.getD false∨more.length<8 then w
  else
   let l1:={l with promised:=l.promised.set src true,promises:=l.promises++ [(ballot,zW more 0+4294967296*zW more 4,more.drop 8)] }
   let w1:={w with leads:=put (i:Int) l1 w.leads}
   if 2*l1.promises.length<=w.nodes.length then w1
   else if(Zo w.nodes.length l1.promises l1.value).2≠0 then w1
   else j1 {w with leads:=put (i:Int) {l1 with asked:=true,value:=(Zo w.nodes.length l1.promises l1.value).1} w.leads} 5 i inst ballot (Zo w.nodes.length l1.promises l1.value).1
def countVote(w:zf)(i:Nat)(src:Nat)(inst:Int)(ballot:Nat):zf:=
 match zH (i:Int) w.leads with
 |none=>w
 |some l=>
  if l.inst≠inst∨l.ballot≠ballot∨l.told∨l.voted[src]?.getD false then w
  else
   let l1:={l with voted:=l.voted.set src true,votes:=l.votes+1}
   if 2*l1.votes<=w.nodes.length then {w with leads:=put (i:Int) l1 w.leads}
   else j1 {w with leads:=put (i:Int) {l1 with told:=true} w.leads} 7 i inst ballot l1.value
def yN(w:zf)(i:Nat)(f:yQ)(inst:Int)(ballot:Nat)(more:List UInt8):zf:=
 match zH inst (zn w i).pax.known with
 |some x=>y8 w (ji 7 i f.src inst ballot x)
 |none=>
  if f.kind=5 then
   let r:=yH (zn w i) inst ballot more
   if r.2=0 then y8 (setNode w i r.1) (ji 6 i f.src inst ballot [])else setNode w i r.1
  else
   let r:=zy (zn w i) inst ballot
   if r.2.2=0 then y8 (setNode w i r.1) (ji 4 i f.src inst ballot (le8 r.2.1.2.1++r.2.1.2.2))else setNode w i r.1
def yG(w:zf)(i:Nat)(f:yQ):zf:=
 if f.data.length<12 then w
 else
  let inst:Int:=zW f.data 0
  let ballot:=zW f.data 4+4294967296*zW f.data 8
  let more:=f.data.drop 12
  if f.kind=3∨f.kind=5 then yN w i f inst ballot more
  else if f.kind=4 then countPromise w i f.src.toNat inst ballot more
  else if f.kind=6 then countVote w i f.src.toNat inst ballot
  else if f.kind=7 then setNode (qk w i) i (jd (zn w i) inst more).1
  else w
def xL(w:zf)(place:Int):zf×Int:=
 if place<0 then(w,2)else match w.notes[place.toNat]? with
 |none=>(w,2)
 |some (id,dst,s)=>
  let w1:={w with notes:=w.notes.eraseIdx place.toNat,hurt:=del id w.hurt}
  if(zgf s).2=0/\(zn w1 dst.toNat).down=false then(yG w1 dst.toNat (zgf s).1,0)else(w1,0)
def zh7(w:zf)(place:Int):zf×Int:=
 if place<0 then(w,2)else match w.notes[place.toNat]? with
 |none=>(w,2)
 |some (id,_,_)=>({w with notes:=w.notes.eraseIdx place.toNat,hurt:=del id w.hurt},0)
def zly(w:zf)(place:Int):zf×Int:=
 if place<0 then(w,2)else match w.notes[place.toNat]? with
 |none=>(w,2)
 |some (id,dst,s)=>
  let r:=yr w dst s
  if r.2.2≠0 then(w,r.2.2)else if(zH id w.hurt).isSome then({r.1 with hurt:=put r.2.1 () r.1.hurt},0)else(r.1,0)
def zlz(w:zf)(place bit:Int)(mask:Nat):zf×Int:=
 if place<0 then(w,2)else match w.notes[place.toNat]? with
 |none=>(w,2)
 |some (id,dst,s)=>
  if(zH id w.hurt).isSome then(w,180)
  else if(zd7 s bit mask).2≠0 then(w,(zd7 s bit mask).2)
  else({w with notes:=w.notes.set place.toNat (id,dst,(zd7 s bit mask).1),hurt:=put id () w.hurt},0)
def tellOne(w:zf)(deliver:Bool)(i:Nat):zf:=
 let s:=jj w i
 if s.stale||s.lent then
  (if deliver then {setSeat w i {s with delivered:=max s.delivered (zn w i).loc.log.length,stale:=false} with trace:=w.trace++((zn w i).loc.log.drop s.delivered).map λm=>(3,(i:Int),m)}
   else {setSeat w i {s with accepted:=max s.accepted (zn w i).acc.length} with trace:=w.trace++((zn w i).acc.drop s.accepted).map λm=>(1,(i:Int),m)})
 else w
def xp(w:zf):zf:=(List.range w.nodes.length).foldl (λw i=>tellOne w true i) ((List.range w.nodes.length).foldl (λw i=>tellOne w false i) w)
structure OpD where
 kind:Int
 node:Int
 a:Int
 b:Int
 mask:Nat
 s:List UInt8
def vz(w:zf)(s:StD)(o:OpD):zf×Int:=
 let i:=o.node.toNat
 if o.kind=1 then(setNode (qk w i) i (zG (zn w i) o.s).1,(zG (zn w i) o.s).2.2)
 else if o.kind=2 then yo w i
 else if o.kind=3 then xL w o.a
 else if o.kind=4 then zh7 w o.a
 else if o.kind=5 then zly w o.a
 else if o.kind=6 then zlz w o.a o.b o.mask
 else if o.kind=7 then(setNode {w with leads:=del o.node w.leads} i (Xw (zn w i)).1,(Xw (zn w i)).2)
 else if o.kind=8 then(setNode w i (zk1 (zn w i) o.a).1,(zk1 (zn w i) o.a).2)
 else if o.kind=9 then(setNode {qk w i with leads:=del o.node w.leads} i (xS (zn w i) s),0)
 else if o.kind=10 then(setNode w i (JR (zn w i) o.a).1,(JR (zn w i) o.a).2)
 else(w,180)
def doW(s:StD)(w:zf)(o:OpD):zf×Int:=
 if o.kind<1∨10<o.kind then(w,180)
 else if¬(3<=o.kind/\o.kind<=6)/\(o.node<0∨(w.nodes.length:Int)<=o.node)then(w,180)
 else
  let r:=vz w s o
  if o.kind=1/\r.2≠0 then({xp r.1 with trace:=(xp r.1).trace++ [(2,o.node,((0,0),[]))] },r.2)else(xp r.1,r.2)
def zfc(w:zf)(i:Nat):Bool:=(jN (zn w i)).2||w.nodes.any λn=>decide (yE (zn w i)<yE n)
def qV(w:zf):Bool:=w.notes.isEmpty &&(List.range w.nodes.length).all λi=> !(zn w i).down && !zfc w i
theorem xq {i:Int}(h0:0<=i)(h1:i<256):(yW i).toNat=i.toNat:=by
 unfold yW;rw [UInt8.toNat_ofNat'];omega
def qW(kind src dst:Int)(data:List UInt8):yQ:=⟨1,kind,src,dst,0,0,0,0,data⟩
theorem zcC {kind src dst:Int}{data:List UInt8}(hk:0<=kind)(hk2:kind<=31)(hs:0<=src)(hs2:src<16)(hd:0<=dst)(hd2:dst<16)(hl:data.length<=4096):Yu (qW kind src dst data)=true:=by
 unfold Yu qW;simp
 omega
theorem zd8 {kind src dst:Int}{data:List UInt8}(hk:0<=kind)(hk2:kind<=31)(hs:0<=src)(hs2:src<16)(hd:0<=dst)(hd2:dst<16)(hl:data.length<=4096):
 (qU (qW kind src dst data)).2=0/\zgf (qU (qW kind src dst data)).1=(qW kind src dst data,0):=by
 have hr:=zcC hk hk2 hs hs2 hd hd2 hl
 have he:qU (qW kind src dst data)=(Zh (72::1::yW kind::yW (src*16+dst)::0::0::0::0::0::0::0::0::0::0::0::0::(le4 data.length++data)),0):=by
  unfold qU;rw [if_neg (by rw [hr];simp)];have z:le4 0=[0,0,0,0]:=rfl;have w1:yW 1=1:=rfl
  show(Zh ([72,yW 1,yW kind,yW (src*16+dst)] ++le4 0++le4 0++le4 0++(if(1:Int)=2 then le4 0 else [])++le4 data.length++data),(0:Int))=_
  rw [z,w1,if_neg (by decide)];simp
 rw [he];refine⟨rfl,?_⟩;unfold zgf;rw [Xx];simp only;obtain⟨l4,h4⟩:∃l4,l4=le4 data.length:=⟨_,rfl⟩;have aa:l4.length=4:=by rw [h4];rfl
 rw [← h4];have hg:vU l4=data.length:=by rw [h4,y7];omega
 have w0:vU [(0:UInt8),0,0,0]=0:=rfl;have k1:=xq hk (by omega);have k2:=xq (i:=src*16+dst) (by omega) (by omega);unfold zmm;rw [if_neg (by simp [vy]),if_neg (by simp [vy]),if_pos (by simp [vy])];rw [if_neg (by simp [aa])]
 have ac:zW (72::1::yW kind::yW (src*16+dst)::0::0::0::0::0::0::0::0::0::0::0::0::(l4++data)) 16=data.length:=by
  unfold zW
  show vU ((l4++data).take 4)=_
  rw [List.take_append_of_le_length (by omega),List.take_of_length_le (by omega),hg]
 have ab:(72::1::yW kind::yW (src*16+dst)::0::0::0::0::0::0::0::0::0::0::0::0::(l4++data)).drop 20=data:=by
  show(l4++data).drop 4=data
  rw [List.drop_append_of_le_length (by omega),List.drop_of_length_le (by omega),List.nil_append]
 have b2:vy (72::1::yW kind::yW (src*16+dst)::0::0::0::0::0::0::0::0::0::0::0::0::(l4++data)) 2=kind.toNat:=k1;have b3:vy (72::1::yW kind::yW (src*16+dst)::0::0::0::0::0::0::0::0::0::0::0::0::(l4++data)) 3=(src*16+dst).toNat:=k2
 have w4:∀i,i=4∨i=8∨i=12->zW (72::1::yW kind::yW (src*16+dst)::0::0::0::0::0::0::0::0::0::0::0::0::(l4++data)) i=0:=by
  rintro i(rfl|rfl|rfl)<;>rfl
 rw [b2,b3,ac,ab,w4 4 (by simp),w4 8 (by simp),w4 12 (by simp)]
 have hf:(⟨1,(kind.toNat:Int),(((src*16+dst).toNat:Int)) / 16,((src*16+dst).toNat:Int)% 16,0,0,0,0,data⟩:yQ)=qW kind src dst data:=by
  unfold qW
  congr 1<;>omega
 rw [hf,hr,if_pos ⟨by simp [aa],rfl⟩]
theorem Q9(kind src dst inst:Int)(ballot:Nat)(more:List UInt8):ji kind src dst inst ballot more=qW kind src dst (le4 (inst % 4294967296).toNat++le8 ballot++more):=rfl
theorem XJ(inst:Int)(ballot:Nat)(more:List UInt8)(hi:0<=inst)(hi2:inst<4294967296)(hb:ballot<18446744073709551616):
 (zW (le4 (inst % 4294967296).toNat++le8 ballot++more) 0:Int)=inst/\zW (le4 (inst % 4294967296).toNat++le8 ballot++more) 4+4294967296*zW (le4 (inst % 4294967296).toNat++le8 ballot++more) 8=ballot/\
  (le4 (inst % 4294967296).toNat++le8 ballot++more).drop 12=more/\(le4 (inst % 4294967296).toNat++le8 ballot++more).length=12+more.length:=by
 refine⟨?_,?_,rfl,?_⟩
 ·show((vU (le4 (inst % 4294967296).toNat):Nat):Int)=inst
  rw [y7];omega
 ·show vU (le4 ballot)+4294967296*vU (le4 (ballot / 4294967296))=ballot
  rw [y7,y7];omega
 rw [N1,N1];rfl
def jr(w:zf)(i:Nat)(kind src inst:Int)(ballot:Nat)(more:List UInt8):zf:=
 if kind=3∨kind=5 then yN w i (ji kind src i inst ballot more) inst ballot more
 else if kind=4 then countPromise w i src.toNat inst ballot more
 else if kind=6 then countVote w i src.toNat inst ballot
 else if kind=7 then setNode (qk w i) i (jd (zn w i) inst more).1
 else w
theorem zd9 {w:zf}{id dst:Nat}{kind src inst:Int}{ballot:Nat}{more:List UInt8}{rest:List zgg}(hn:w.notes=(id,(dst:Int),(qU (ji kind src dst inst ballot more)).1)::rest)
 (hk:0<=kind) (hk2:kind<=31) (hs:0<=src) (hs2:src<16) (hd2:dst<16) (hi:0<=inst) (hi2:inst<4294967296) (hb:ballot<18446744073709551616) (hm:more.length<=4084) (hup:(zn w dst).down=false):
 xL w 0=(jr {w with notes:=rest,hurt:=del id w.hurt} dst kind src inst ballot more,0):=by
 obtain⟨d1,d2,d3,d4⟩:=XJ inst ballot more hi hi2 hb;obtain⟨e1,e2⟩:=zd8 (kind:=kind) (src:=src) (dst:=(dst:Int)) (data:=le4 (inst % 4294967296).toNat++le8 ballot++more) hk hk2 hs hs2 (by omega) (by omega) (by omega);rw [← Q9] at e1 e2;unfold xL;rw [if_neg (by omega),hn]
 show(if(zgf (qU (ji kind src dst inst ballot more)).1).2=0/\(zn {w with notes:=((id,(dst:Int),(qU (ji kind src dst inst ballot more)).1)::rest).eraseIdx (0:Int).toNat,hurt:=del id w.hurt} ((dst:Int)).toNat).down=false then _ else _)=_
 have ab:(zn {w with notes:=((id,(dst:Int),(qU (ji kind src dst inst ballot more)).1)::rest).eraseIdx (0:Int).toNat,hurt:=del id w.hurt} ((dst:Int)).toNat).down=false:=hup;rw [e2,if_pos ⟨rfl,ab⟩]
 congr 1
 show yG {w with notes:=rest,hurt:=del id w.hurt} dst (ji kind src dst inst ballot more)=_
 unfold yG;have aa:(ji kind src dst inst ballot more).data=le4 (inst % 4294967296).toNat++le8 ballot++more:=rfl;rw [aa,if_neg (by omega)];simp only;rw [d1,d2,d3];rfl
