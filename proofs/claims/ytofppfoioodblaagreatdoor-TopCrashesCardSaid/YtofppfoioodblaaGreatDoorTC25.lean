/- PARTS OF THE PROOF. -/
import Derived.Test.YtofppfoioodblaaGreatDoorTC24
set_option maxRecDepth 8000
set_option maxHeartbeats 4000000
namespace Go.Proofs.YtofppfoioodblaaGreatDoor
section
open Go
abbrev ZV:=Nat×Nat
def jG(S:zf)(p:ZV):Option ZV:=
 if p.1=0 then(if p.2<S.nodes.length then(if(zo S p.2).down then none else some (0,p.2+1))else some (1,0))
 else if p.1=1 then(if p.2<S.nodes.length then(if ze0 S p.2 then none else some (2,p.2))else none)
 else(if S.notes.length=0 then some (1,p.2+1)else none)
def zk1(S:zf)(p:ZV):Prop:=p.1=1/\S.nodes.length<=p.2
def VF(p:ZV):OpD:=if p.1=0 then⟨9,p.2,0,0,0,[]⟩else if p.1=1 then⟨2,p.2,0,0,0,[]⟩else⟨3,0,0,0,0,[]⟩
def ziT(p:ZV):ZV:=if p.1=0 then(0,p.2+1)else(2,p.2)
inductive VG(S:zf):ZV->ZV->Prop
 |refl (p):VG S p p
 |step {p q r} :jG S p=some q->VG S q r->VG S p r
def zjA(S:zf)(q:ZV):Prop:=jG S q=none/\¬zk1 S q
theorem VG.snoc {S:zf}{p q r:ZV}(h:VG S p q)(h2:jG S q=some r):VG S p r:=by
 induction h with
 |refl=>exact .step h2 (.refl _)
 |step h1 _ ih=>exact .step h1 (ih h2)
theorem VG.det {S:zf}{p q r:ZV}(h:VG S p q)(h2:VG S p r)(hq:jG S q=none)(hr:jG S r=none):q=r:=by
 induction h with
 |refl=>
  cases h2 with
  |refl=>rfl
  |step h3 _=>rw [hq] at h3;cases h3
 |step h1 _ ih=>
  cases h2 with
  |refl=>rw [hr] at h1;cases h1
  |step h3 h4=>rw [h1] at h3;cases h3;exact ih h4 hq
theorem zk1.none {S:zf}{q:ZV}(h:zk1 S q):jG S q=none:=by
 unfold zk1 at h;unfold jG;rw [if_neg (by omega),if_pos h.1,if_neg (by omega)]
inductive xz(s:StD):Nat->ZV->zf->zf->Prop
 |done {p q S} :VG S p q->zk1 S q->xz s 0 p S S
 |step {p q S S' f} :VG S p q->zjA S q->xz s f (ziT q) (doW s S (VF q)).1 S'->xz s (f+1) p S S'
theorem xz.next {s:StD}{f:Nat}{p q:ZV}{S S':zf}(h:xz s f p S S')(hs:VG S p q)(hy:zjA S q):∃g,f=g+1/\xz s g (ziT q) (doW s S (VF q)).1 S':=by
 cases h with
 |done h1 h2=>exact absurd (by rw [hs.det h1 hy.1 h2.none];exact h2) hy.2
 |step h1 h2 h3=>rw [hs.det h1 hy.1 h2.1];exact⟨_,rfl,h3⟩
theorem xz.fin {s:StD}{f:Nat}{p q:ZV}{S S':zf}(h:xz s f p S S')(hs:VG S p q)(he:zk1 S q):f=0/\S'=S:=by
 cases h with
 |done h1 h2=>exact⟨rfl,rfl⟩
 |step h1 h2 h3=>exact absurd (by rw [← hs.det h1 he.none h2.1];exact he) h2.2
inductive Vb(s:StD):Nat->Nat->zf->zf->Bool->Prop
 |none {S} :Vb s 0 0 S S (qP S)
 |rests {r S} :qP S=true->Vb s (r+1) 0 S S true
 |round {r f g S S1 S' b} :qP S=false->xz s f (0,0) S S1->Vb s r g S1 S' b->Vb s (r+1) (f+g) S S' b
def zkz(S:zf):Nat->ZV->ZV
 |0,p=>p
 |n+1,p=>match jG S p with|none=>p|some q=>zkz S n q
theorem zei(S:zf):∀(n:Nat)(p:ZV),VG S p (zkz S n p)
 |0,p=>.refl p
 |n+1,p=>by
  unfold zkz
  cases h:jG S p with
  |none=>exact .refl p
  |some q=>exact .step h (zei S n q)
def zmu(s:StD):Nat->ZV->zf->Option zf
 |0,_,_=>none
 |n+1,p,S=>
  if(jG S (zkz S 100 p)).isSome then none
  else if(zkz S 100 p).1=1/\S.nodes.length<=(zkz S 100 p).2 then some S
  else zmu s n (ziT (zkz S 100 p)) (doW s S (VF (zkz S 100 p))).1
theorem ziU(s:StD):∀(n:Nat)(p:ZV)(S S':zf),zmu s n p S=some S'->∃f,f<=n/\xz s f p S S'
 |0,_,_,_,h=>by cases h
 |n+1,p,S,S',h=>by
  unfold zmu at h
  split at h
  ·cases h
  rename_i h1
  have h1':jG S (zkz S 100 p)=none:=by simpa using h1
  split at h
  ·rename_i h2
   cases h
   exact⟨0,Nat.zero_le _,.done (zei S 100 p) h2⟩
  rename_i h2
  obtain⟨f,hf,hr⟩:=ziU s n _ _ _ h;exact⟨f+1,by omega,.step (zei S 100 p) ⟨h1',h2⟩ hr⟩
def zgO(s:StD)(m:Nat):Nat->zf->Option (zf×Bool)
 |0,S=>some (S,qP S)
 |r+1,S=>if qP S then some (S,true)else match zmu s m (0,0) S with|none=>none|some S1=>zgO s m r S1
theorem zfn(s:StD)(m:Nat):∀(r:Nat)(S S':zf)(b:Bool),zgO s m r S=some (S',b)->∃f,f<=r*m/\Vb s r f S S' b
 |0,S,S',b,h=>by
  unfold zgO at h
  cases h
  exact⟨0,by simp,.none⟩
 |r+1,S,S',b,h=>by
  unfold zgO at h
  split at h
  ·rename_i h1
   cases h
   exact⟨0,Nat.zero_le _,.rests h1⟩
  rename_i h1
  split at h
  ·cases h
  rename_i S1 h2
  obtain⟨f,hf,hr⟩:=ziU s m _ _ _ h2;obtain⟨g,hg,hr2⟩:=zfn s m r _ _ _ h;exact⟨f+g,by rw [Nat.add_mul];omega,.round (by simpa using h1) hr hr2⟩
theorem zkA {p:Nat->Prop} :∀n,p n->∃m,p m/\∀k,p k->m<=k:=by
 intro n
 induction n using Nat.strongRecOn with
 |_ n ih=>
  intro hn
  by_cases h:∃k,k<n/\p k
  ·obtain⟨k,hk,hp⟩:=h
   exact ih k hk hp
  exact⟨n,hn,λk hk=>by
  rcases Nat.lt_or_ge k n with h1|h1
  ·exact absurd ⟨k,h1,hk⟩ h
  exact h1⟩
noncomputable def least(p:Nat->Prop):Nat:=open Classical in if h:∃m,p m/\∀k,p k->m<=k then h.choose else 0
theorem Jd {p:Nat->Prop}(h:∃n,p n):p (least p)/\∀k,p k->least p<=k:=by
 obtain⟨n,hn⟩:=h;have h2:=zkA n hn;unfold least;rw [dif_pos h2];exact h2.choose_spec
def Zx(f:Nat->Nat):Nat->Nat
 |0=>0
 |n+1=>Zx f n+f n
theorem qW {f g:Nat->Nat} :∀(n:Nat),(∀j,j<n->f j=g j)->Zx f n=Zx g n
 |0,_=>rfl
 |n+1,h=>by unfold Zx;rw [qW n (λj hj=>h j (by omega)),h n (by omega)]
theorem za6 {f g:Nat->Nat}{i c:Nat}(hi:g i=f i+c)(h:∀j,j≠i->g j=f j):∀(n:Nat),i<n->Zx g n=Zx f n+c
 |0,h0=>by omega
 |n+1,h0=>by
  unfold Zx
  by_cases hn:i=n
  ·subst hn
   rw [qW (f:=g) (g:=f) i (λj hj=>h j (by omega)),hi];omega
  rw [za6 hi h n (by omega),h n (λe=>hn e.symm)];omega
theorem YE {f:Nat->Nat} :∀(n:Nat),Zx f n=0->∀j,j<n->f j=0
 |0,_,j,hj=>by omega
 |n+1,h,j,hj=>by
  unfold Zx at h
  by_cases hn:j=n
  ·subst hn;omega
  exact YE n (by omega) j (by omega)
def vD(tk:List Nat)(j:Nat):Nat:=tk[j]?.getD 0
theorem xW {tk:List Nat}{i:Nat}(hi:i<tk.length)(c j:Nat):vD (tk.set i c) j=if i=j then c else vD tk j:=by
 unfold vD
 by_cases h:i=j
 ·subst h;rw [List.getElem?_set_self hi,if_pos rfl];rfl
 rw [List.getElem?_set_ne h,if_neg h]
def xA(a:Nat->Nat)(d:List UInt8)(log2:List zA)(A:List jN×List xV)(j:Nat):List jN×List xV:=
 match A.1[j]? with
 |some s=>(A.1.set j {s with accepted:=max s.accepted (a j),delivered:=max s.delivered log2.length,stale:=false},A.2++(((jq j d 0 (a j)).drop s.accepted).map (λx=>(1,(j:Int),x))++(log2.drop s.delivered).map (λx=>(3,(j:Int),x))))
 |none=>A
abbrev zgP:=List jN->List xV->List Nat->List zA->Prop
def za7(d:List UInt8)(a:Nat->Nat)(n:Nat)(P:zgP):Prop:=∀ss tr tk log2 i b c,P ss tr tk log2->ss.length=n->i<n->tk.length=16->vD tk i+c<=a i->
 P ((List.range n).foldl (xA a d (log2++jq i d (vD tk i) c)) (ss.set i {ss[i]?.getD yA with greatest:=b},tr)).1 ((List.range n).foldl (xA a d (log2++jq i d (vD tk i) c)) (ss.set i {ss[i]?.getD yA with greatest:=b},tr)).2 (tk.set i (vD tk i+c)) (log2++jq i d (vD tk i) c)
theorem Vc {a:Nat->Nat}{d:List UInt8}{log2:List zA}{q:Int}{x:List UInt8} :∀(js:List Nat)(ns:List zr)(ss:List jN)(tr:List xV),js.Nodup->(∀j∈js,∃m,ns[j]?=some m/\(jg m q x).1.acc=jq j d 0 (a j)/\(jg m q x).1.loc.log=log2)->
 (js.foldl (xa q x) (ns,ss,tr)).2=js.foldl (xA a d log2) (ss,tr)
 | [],_,_,_,_,_=>rfl
 |j::js,ns,ss,tr,hnd,h=>by
  obtain⟨hn1,hn2⟩:=List.nodup_cons.1 hnd;obtain⟨m,hm,h1,h2⟩:=h j (List.mem_cons_self ..);rw [List.foldl_cons,List.foldl_cons]
  have hrest:∀(ns':List zr),(∀k∈js,ns'[k]?=ns[k]?)->∀k∈js,∃m,ns'[k]?=some m/\(jg m q x).1.acc=jq k d 0 (a k)/\(jg m q x).1.loc.log=log2:=λns' hk k hkj=>by
   rw [hk k hkj];exact h k (U7 _ hkj)
  cases hs:ss[j]? with
  |none=>
   have e1:xa q x (ns,ss,tr) j=(ns,ss,tr):=by unfold xa;simp only [hm,hs]
   have e2:xA a d log2 (ss,tr) j=(ss,tr):=by unfold xA;simp only [hs]
   rw [e1,e2];exact Vc js ns ss tr hn2 (hrest ns (λ_ _=>rfl))
  |some s=>
   have e1:xa q x (ns,ss,tr) j=(ns.set j (jg m q x).1,ss.set j (JL s (jg m q x).1),tr++Zi s j (jg m q x).1):=by unfold xa;simp only [hm,hs]
   have e2:xA a d log2 (ss,tr) j=(ss.set j (JL s (jg m q x).1),tr++Zi s j (jg m q x).1):=by
    unfold xA JL Zi;simp only [hs];rw [h1,h2,je]
   rw [e1,e2];exact Vc js _ _ _ hn2 (hrest _ (λk hk=>by rw [List.getElem?_set_ne (λe=>hn1 (by rw [e];exact hk))]))
structure Jo(P:zgP)(v:Int)(s:StD)(d:List UInt8)(a:Nat->Nat)(n k G room:Nat)(tk:List Nat)(log2:List zA)(W:zf)(ns:List zr):Prop where
 is:∃ss ld tr,IsW W ns ss ld [] tr/\yp ss/\ss.length=n/\(∀j:Nat,(ss[j]?.getD yA).greatest<=G)/\P ss tr tk log2
 len:ns.length=n
 tks:tk.length=16
 nodes:∃cnt log,∀j m,ns[j]?=some m->qS d k (Jl v s tk cnt log log2) room j (vD tk j) (a j) m
 most:∀j,a j<=100000
structure zlE(d:List UInt8)(a:Nat->Nat)(n:Nat)(tk:List Nat)(log2:List zA):Prop where
 len:log2.length=Zx (vD tk) n
 one:∀i,i<n->(∀j,j<n->j≠i->a j=0)->log2=jq i d 0 (vD tk i)
def zk2(a:Nat->Nat)(tk:List Nat)(n:Nat):Nat:=Zx (λj=>a j - vD tk j) n
structure QE(P:zgP)(v:Int)(s:StD)(d:List UInt8)(a:Nat->Nat)(n p:Nat)(W:zf):Prop where
 ex:∃k G room tk log2 ns,Jo P v s d a n k G room tk log2 W ns/\zlE d a n tk log2/\zk2 a tk n=p/\k+p<=9000/\G+32*p<=1000000000000/\2000*p<=room
variable {P:zgP}{v:Int}{s:StD}{d:List UInt8}{a:Nat->Nat}{n k G room:Nat}{tk:List Nat}{log2:List zA}{W:zf}{ns:List zr}
theorem Jo.notes(h:Jo P v s d a n k G room tk log2 W ns):W.notes.length=0:=by
 obtain⟨ss,ld,tr,hW, -⟩:=h.is;exact hW.len
theorem Jo.wn(h:Jo P v s d a n k G room tk log2 W ns):W.nodes.length=n:=by
 obtain⟨ss,ld,tr,hW, -⟩:=h.is;rw [hW.nodes];exact h.len
theorem Jo.node(h:Jo P v s d a n k G room tk log2 W ns){i:Nat}(hi:i<n):∃m,ns[i]?=some m/\zo W i=m:=by
 obtain⟨ss,ld,tr,hW, -⟩:=h.is;obtain⟨m,hm⟩:∃m,ns[i]?=some m:=⟨_,N3 (by rw [h.len];exact hi)⟩;exact⟨m,hm,by rw [hW.node,hm];rfl⟩
theorem Jo.up(h:Jo P v s d a n k G room tk log2 W ns){i:Nat}(hi:i<n):(zo W i).down=false:=by
 obtain⟨m,hm,hn⟩:=h.node hi;obtain⟨cnt,log,hc⟩:=h.nodes;rw [hn];exact(hc i m hm).up
theorem Jo.due(h:Jo P v s d a n k G room tk log2 W ns)(hv:known v=true)(hn:n<=16)(hd:d.length<=100){i:Nat}(hi:i<n):ze0 W i=decide (a i - vD tk i≠0):=by
 obtain⟨m,hm,ac⟩:=h.node hi;obtain⟨cnt,log,hc⟩:=h.nodes;obtain⟨ss,ld,tr,hW, -⟩:=h.is;have hp:=(hc i m hm).proposal hv (by omega) hd (by have:=h.most i;omega)
 have aa:(W.nodes.any λx=>decide (yM (zo W i)<yM x))=false:=by
  rw [List.any_eq_false];intro x hx;rw [hW.nodes] at hx;obtain⟨j,hj⟩:=List.mem_iff_getElem?.1 hx;rw [ac,(hc i m hm).next,(hc j x hj).next];simp
 unfold ze0;rw [aa,Bool.or_false,ac,hp]
 by_cases h0:a i - vD tk i=0
 ·rw [if_pos h0];simp [h0]
 rw [if_neg h0];simp [h0]
theorem X3 {G i:Nat}(hG:G<=1000000000000)(hi:i<16):∃b,jB G i=(b,0)/\1<=b/\b<=G+32:=by
 unfold jB;rw [if_neg (by omega)]
 split
 ·exact⟨_,rfl,by omega,by omega⟩
 exact⟨_,rfl,by omega,by omega⟩
theorem Jo.lead(h:Jo P v s d a n k G (room+2000) tk log2 W ns)(hv:known v=true)(hn:n<=16)(hd:d.length<=100)(hG:G<=1000000000000)(hk:k<10000){i:Nat}(hi:i<n)(hdue:a i - vD tk i≠0)(hlog:zlE d a n tk log2)(hP:za7 d a n P):
 ∃c ns',1<=c/\c<=a i - vD tk i/\Jo P v s d a n (k+1) (G+32) room (tk.set i (vD tk i+c)) (log2++jq i d (vD tk i) c) (jm (5*n) (doW s W ⟨2,i,0,0,0,[]⟩).1) ns'/\
  zlE d a n (tk.set i (vD tk i+c)) (log2++jq i d (vD tk i) c)/\Seg (5*n) (doW s W ⟨2,i,0,0,0,[]⟩).1:=by
 obtain⟨mi,af, -⟩:=h.node hi;obtain⟨cnt,log,hc⟩:=h.nodes;obtain⟨ss,ld,tr,hW,hq,ah,ag,al⟩:=h.is;have aa:=h.len;have au:=ag i;obtain⟨b,hb,an,ar⟩:=X3 (G:=(ss[i]?.getD yA).greatest) (i:=i) (by omega) (by omega);have ai:=hc i mi af;have hp:=ai.proposal hv (by omega) hd (by have:=h.most i;omega);rw [if_neg hdue] at hp;have aw:1<=ZP v/\ZP v<=8:=by unfold ZP;split<;>omega
 obtain⟨c,ao⟩:∃c,min (ZP v) (a i - vD tk i)=c:=⟨_,rfl⟩;rw [ao] at hp;have ap:=h.most i;have ae:=h.tks
 have ad:∀j,j<16->tk[j]?=some (vD tk j):=λj hj=>by
  unfold vD;rw [N3 (by omega)];rfl
 have ac:=λj m (hm:ns[j]?=some m)=>(hc j m hm).led hd hk an (i:=i) (ti:=vD tk i) (c:=c) (by omega) ae (ad i (by omega)) (ad j (by have:=(N6.1 hm).1;omega)) (by omega) (by omega) (λe=>by subst e;omega)
 have ax:=zcg (j:=i) (d:=d) (t:=vD tk i) (c:=c) (by omega) hd (by omega) (by omega)
 obtain⟨aj,am,ak,g0,g1,g2,g3,g4,g5⟩:=zkc s hW hq (by rw [ah,aa]) (i:=i) (b:=b) (q:=k+1) (x:=qx i d (vD tk i) c) (mi:=mi) (by omega) af hb (by omega) ai.next (by omega) (by rw [hp]) (by omega) (λm hm=>by
  obtain⟨j,hj⟩:=List.mem_iff_getElem?.1 hm
  exact(ac j m hj).1)
 rw [aa] at g1 g3 g5;refine⟨c,_,by omega,by omega,⟨⟨am,aj,ak,g1,g2,g3,λj=>?_,?_⟩,by simpa using aa,by simpa using ae,⟨cnt+1,log++jq i d (vD tk i) c,λj m' hm'=>?_⟩,h.most⟩,⟨?_,λi0 hi0 h0=>?_⟩,g5⟩
 ·rw [g4 j]
  by_cases hj:i=j
  ·subst hj
   rw [List.getElem?_set_self (by omega)]
   show b<=_
   omega
  rw [List.getElem?_set_ne hj]
  have:=ag j;omega
 ·have ht:=Vc (a:=a) (d:=d) (log2:=log2++jq i d (vD tk i) c) (q:=((k+1:Nat):Int)) (x:=qx i d (vD tk i) c) (List.range n) (ns.map λm=>(yS (zC m ((k+1:Nat):Int) b).1 ((k+1:Nat):Int) b (qx i d (vD tk i) c)).1) (ss.set i {ss[i]?.getD yA with greatest:=b}) tr List.nodup_range (λj hj=>by
   obtain⟨m,hm⟩:∃m,ns[j]?=some m:=⟨_,N3 (by rw [aa];exact List.mem_range.1 hj)⟩;have hx:=(ac j m hm).2
   exact⟨_,by rw [List.getElem?_map,hm];rfl,hx.acc,by rw [show(jg (yS (zC m ((k+1:Nat):Int) b).1 ((k+1:Nat):Int) b (qx i d (vD tk i) c)).1 ((k+1:Nat):Int) (qx i d (vD tk i) c)).1.loc=_ from hx.loc];rfl⟩)
  unfold zib at g0;rw [List.length_map,aa] at g0;rw [show((k+1:Nat):Int)=((k+1:Nat):Int)from rfl] at ht;have e1:=congrArg Prod.fst (g0.trans ht);have e2:=congrArg Prod.snd (g0.trans ht);simp only at e1 e2;rw [e1,e2];exact hP ss tr tk log2 i b c al ah hi ae (by omega)
 ·rw [List.getElem?_map] at hm'
  obtain⟨m,hm,rfl⟩:=Option.map_eq_some_iff.1 hm';have:=(ac j m hm).2
  rwa [xW (by omega)]
 ·rw [N1,je,hlog.len]
  exact(za6 (f:=vD tk) (g:=vD (tk.set i (vD tk i+c))) (i:=i) (c:=c) (by rw [xW (by omega),if_pos rfl]) (λj hj=>by rw [xW (by omega),if_neg (λe=>hj e.symm)]) n hi).symm
 have aq:i0=i:=by
  by_cases e:i0=i
  ·exact e
  have:=h0 i hi (λe'=>e e'.symm)
  omega
 subst aq;rw [hlog.one i0 hi0 h0,xW (by omega),if_pos rfl];have:=xI i0 d 0 (vD tk i0) c;rw [Nat.zero_add] at this;exact this.symm
theorem xz.pre {f:Nat}{p q:ZV}{S S':zf}(h:VG S p q)(hr:xz s f q S S'):xz s f p S S':=by
 have tr:∀ {r},VG S q r->VG S p r:=λ{r} h2=>by
  induction h with
  |refl=>exact h2
  |step h1 _ ih=>exact .step h1 (ih hr h2)
 cases hr with
 |done h1 h2=>exact .done (tr h1) h2
 |step h1 h2 h3=>exact .step (tr h1) h2 h3
theorem zap {i f:Nat}{S':zf} :∀(c:Nat)(W:zf),Seg c W->(jm c W).notes.length=0->xz s f (1,i+1) (jm c W) S'->xz s (f+c) (2,i) W S'
 |0,W,_,h0,hr=>xz.pre (.step (by unfold jG;rw [if_neg (by simp),if_neg (by simp),if_pos (show W.notes.length=0 from h0)]) (.refl _)) hr
 |c+1,W,hs,h0,hr=>by
  have ih:=zap c (vr W) hs.2 h0 hr;refine xz.step (.refl _) ⟨by unfold jG;rw [if_neg (by simp),if_neg (by simp),if_neg hs.1],λe=>by cases e.1⟩ ?_;rw [show(doW s W (VF (2,i))).1=vr W from zls s W];exact ih
theorem ziV(h:∀i,i<W.nodes.length->(zo W i).down=false):∀(r i:Nat),i+r=W.nodes.length->VG W (0,i) (1,0)
 |0,i,hi=>.step (by unfold jG;rw [if_pos rfl,if_neg (by simp only;omega)]) (.refl _)
 |r+1,i,hi=>.step (q:=(0,i+1)) (by unfold jG;rw [if_pos rfl,if_pos (by simp only;omega),if_neg (by simp only;rw [h i (by omega)];simp)]) (ziV h r (i+1) (by omega))
theorem za8(hP:za7 d a n P)(hv:known v=true)(hn:n<=16)(hd:d.length<=100):∀(r i p:Nat)(W:zf),i+r=n->QE P v s d a n p W->
 ∃f W' p',xz s f (1,i) W W'/\QE P v s d a n p' W'/\p'<=p/\f<=r*(5*n+1)/\((∃j,i<=j/\j<n/\ze0 W j=true)->p'<p)
 |0,i,p,W,hi,h=>by
  obtain⟨k,G,room,tk,log2,ns,hC, -⟩:=h.ex;exact⟨0,W,p,.done (.refl _) ⟨rfl,by rw [hC.wn];simp only;omega⟩,h,N0 _,by omega,λ⟨j,h1,h2,_⟩=>by omega⟩
 |r+1,i,p,W,hi,h=>by
  have h0:=h;obtain⟨k,G,room,tk,log2,ns,hC,hL,hp,hk,hG,hroom⟩:=h.ex;have hin:i<n:=by omega
  have ad:=hC.due hv hn hd hin
  by_cases hz:a i - vD tk i=0
  ·have af:ze0 W i=false:=by rw [ad];simp [hz]
   obtain⟨f,W',p',g1,g2,g3,g4,g5⟩:=za8 hP hv hn hd r (i+1) p W (by omega) h0
   refine⟨f,W',p',xz.pre (.step (q:=(2,i)) (by unfold jG;rw [if_neg (by simp),if_pos rfl,if_pos (by simp only;rw [hC.wn];omega),if_neg (by simp only;rw [af];simp)])
    (.step (q:=(1,i+1)) (by unfold jG;rw [if_neg (by simp),if_neg (by simp),if_pos hC.notes]) (.refl _))) g1,g2,g3,by rw [show(r+1)*(5*n+1)=r*(5*n+1)+(5*n+1)from Nat.succ_mul _ _];omega,λ⟨j,h1,h2,h3⟩=>g5 ⟨j,?_,h2,h3⟩⟩
   rcases Nat.eq_or_lt_of_le h1 with e|e
   ·subst e;rw [af] at h3;cases h3
   exact e
  have ag:ze0 W i=true:=by rw [ad];simp [hz]
  have al:1<=p:=by
   rcases Nat.eq_zero_or_pos p with e|e
   ·rw [e] at hp
    exact absurd (YE n hp i hin) hz
   exact e
  obtain⟨ae,rfl⟩:∃r',room=r'+2000:=⟨room - 2000,by omega⟩;obtain⟨c,ak,c1,c2,ac,ah,aa⟩:=hC.lead hv hn hd (by omega) (by omega) hin hz hL hP
  have aj:zk2 a (tk.set i (vD tk i+c)) n+c=p:=by
   rw [← hp];unfold zk2;exact(za6 (f:=λj=>a j - vD (tk.set i (vD tk i+c)) j) (g:=λj=>a j - vD tk j) (i:=i) (c:=c) (by rw [xW (by have:=hC.tks;omega),if_pos rfl];omega) (λj hj=>by rw [xW (by have:=hC.tks;omega),if_neg (λe=>hj e.symm)]) n hin).symm
  have ai:QE P v s d a n (zk2 a (tk.set i (vD tk i+c)) n) (jm (5*n) (doW s W ⟨2,i,0,0,0,[]⟩).1):=⟨⟨_,_,_,_,_,_,ac,ah,rfl,by omega,by omega,by omega⟩⟩;obtain⟨f,W',p',g1,g2,g3,g4, -⟩:=za8 hP hv hn hd r (i+1) _ _ (by omega) ai;refine⟨f+5*n+1,W',p',?_,g2,by omega,by rw [show(r+1)*(5*n+1)=r*(5*n+1)+(5*n+1)from Nat.succ_mul _ _];omega,λ_=>by omega⟩;refine xz.step (.refl _) ⟨by unfold jG;rw [if_neg (by simp),if_pos rfl,if_pos (by simp only;rw [hC.wn];omega),if_pos ag],λe=>by have:=e.2;rw [hC.wn] at this;simp only at this;omega⟩ ?_;exact zap (i:=i) (5*n) _ aa ac.notes g1
theorem zgQ(hv:known v=true)(hn:n<=16)(hd:d.length<=100)(hC:Jo P v s d a n k G room tk log2 W ns):qP W=decide (zk2 a tk n=0):=by
 unfold qP
 have h1:W.notes.isEmpty=true:=by have:=hC.notes;cases hN:W.notes with
  |nil=>rfl
  |cons x l=>rw [hN] at this;simp at this
 rw [h1,Bool.true_and]
 by_cases hz:zk2 a tk n=0
 ·rw [decide_eq_true hz,List.all_eq_true]
  intro i hi;rw [hC.wn] at hi;have ac:=List.mem_range.1 hi;rw [hC.up ac,hC.due hv hn hd ac,YE n hz i ac];simp
 rw [decide_eq_false hz,List.all_eq_false]
 have:∃i,i<n/\a i - vD tk i≠0:=by
  refine Classical.byContradiction λaa=>hz ?_
  have:∀m,m<=n->Zx (λj=>a j - vD tk j) m=0:=by
   intro m
   induction m with
   |zero=>intro _;rfl
   |succ m ih=>
    intro hm;unfold Zx;rw [ih (by omega)];have:a m - vD tk m=0:=Classical.byContradiction λh=>aa ⟨m,by omega,h⟩
    omega
  exact this n (N0 _)
 obtain⟨i,hi,aa⟩:=this;refine⟨i,by rw [hC.wn];exact List.mem_range.2 hi,?_⟩;rw [hC.up hi,hC.due hv hn hd hi];simp [aa]
theorem zcH(hP:za7 d a n P)(hv:known v=true)(hn:n<=16)(hd:d.length<=100):∀(r p:Nat)(W:zf),QE P v s d a n p W->p<r->∃g W',Vb s r g W W' true/\QE P v s d a n 0 W'/\g<=p*1296
 |0,p,W,_,hr=>by omega
 |r+1,p,W,h,hr=>by
  obtain⟨k,G,room,tk,log2,ns,hC,hL,hp,hk,hG,hroom⟩:=h.ex;have hrs:=zgQ hv hn hd hC;rw [hp] at hrs
  by_cases hz:p=0
  ·subst hz
   exact⟨0,W,.rests (by rw [hrs];rfl),h,Nat.zero_le _⟩
  have hrf:qP W=false:=by rw [hrs];simp [hz]
  obtain⟨f,W1,p1,g1,g2,g3,g4,g5⟩:=za8 hP hv hn hd n 0 p W (by omega) h
  have ad:∃j,0<=j/\j<n/\ze0 W j=true:=by
   refine Classical.byContradiction λhne=>?_
   have ac:∀j,j<n->a j - vD tk j=0:=λj hj=>Classical.byContradiction λh=>hne ⟨j,Nat.zero_le _,hj,by rw [hC.due hv hn hd hj];simp [h]⟩
   have:∀m,m<=n->Zx (λj=>a j - vD tk j) m=0:=by
    intro m
    induction m with
    |zero=>intro _;rfl
    |succ m ih=>intro hm;unfold Zx;rw [ih (by omega),ac m (by omega)]
   exact hz (by rw [← hp];exact this n (N0 _))
  have ae:=g5 ad;obtain⟨g,W',k1,k2,k3⟩:=zcH hP hv hn hd r p1 W1 g2 (by omega);have aa:VG W (0,0) (1,0):=ziV (λi hi=>hC.up (by rw [← hC.wn];exact hi)) W.nodes.length 0 (by omega);refine⟨f+g,W',.round hrf (xz.pre aa g1) k1,k2,?_⟩
  have h1:f<=1296:=Nat.le_trans g4 (by
   have:n*(5*n+1)<=16*81:=Nat.mul_le_mul hn (by omega)
   omega)
  have h2:p1*1296+1296<=p*1296:=by
   have:(p1+1)*1296<=p*1296:=Nat.mul_le_mul_right _ ae;omega
  omega
end
section
open Go
theorem Vd {K V:Type} [DecidableEq K](k:K)(x:V):∀(l:List (K×V)),zE k l=none->put k x l=l++ [(k,x)]
 | [],_=>rfl
 |(a,b)::l,h=>by
  unfold zE at h
  by_cases hk:k=a
  ·rw [if_pos hk] at h;cases h
  rw [if_neg hk] at h
  unfold put;rw [if_neg hk,Vd k x l h,List.cons_append]
theorem Ve(j:Nat)(d:List UInt8)(c:Nat):∀(k t:Nat),(c<t∨t+k<=c)->zE ((j:Int),c+1) ((jq j d t k).map λm=>(m.1,m))=none
 |0,_,_=>rfl
 |k+1,t,h=>by
  rw [vt,List.map_cons];unfold zE;rw [if_neg (λe=>by have:=congrArg Prod.snd e;simp only at this;omega)];exact Ve j d c k (t+1) (by omega)
variable {d:List UInt8}{k room j t a:Nat}{L:zP}{m:zr}
theorem qS.broadcast(h:qS d k L (room+200) j t a m)(hj:j<16)(hd:d.length<=100)(ha:a<100000)(hw:a - t<1000):
 (zv m d).2.2=0/\qS d k L room j t (a+1) (zv m d).1:=by
 have hr:zx (((j:Int),a+1),d)=true:=by simp only [zx,Bool.and_eq_true,decide_eq_true_eq];omega
 have ae:m.acc.length=a:=by rw [h.acc,je]
 have ah:=VU hr
 have ac:([109] ++(j0 [(((j:Int),a+1),d)]).1:List UInt8).length=11+d.length:=by
  rw [ah];simp only [N1,List.length_cons,List.length_nil,v8];omega
 obtain⟨r,af⟩:∃r:List UInt8,[109] ++(j0 [(((j:Int),a+1),d)]).1=r:=⟨_,rfl⟩;rw [af] at ac;have ag:=h.room;have hk:=ZO (n:=m) h.crashed h.isCut h.cap (d:=r) (by omega) (by omega) false;have ak:=h.ta;have ai:(zH r).1.length=20+d.length:=by rw [jS (by omega)];omega
 obtain⟨m1,aa⟩:∃m1,m1=({m with store:={m.store with log:=m.store.log++(zH r).1}} :zr):=⟨_,rfl⟩;rw [← aa] at hk
 have ad:zdB m.pool (((j:Int),a+1),d)=({m.pool with waits:=m.pool.waits++ [(((j:Int),a+1),(((j:Int),a+1),d))] },0):=by
  unfold zdB;have h1:zE ((j:Int),a+1) m.pool.waits=none:=by rw [h.pool.waits];exact Ve j d a _ _ (.inr (by omega))
  rw [if_neg (by rw [hr];simp),if_neg (by rw [h1,h.pool.done a];simp;omega),if_neg (by rw [h.pool.waits,List.length_map,je];omega),Vd _ _ _ h1]
 have hb:zv m d=(jE (a+1) {m1 with acc:=m.acc++ [(((j:Int),a+1),d)] },(((j:Int),a+1),d),0):=by
  unfold zv;rw [if_neg (by rw [h.up];simp),h.ide,ae,if_neg (by rw [hr];simp),af,hk,if_neg (by simp)]
 have aj:jE (a+1) {m1 with acc:=m.acc++ [(((j:Int),a+1),d)] } ={m1 with acc:=m.acc++ [(((j:Int),a+1),d)],pool:={m.pool with waits:=m.pool.waits++ [(((j:Int),a+1),(((j:Int),a+1),d))] },offered:=a+1} :=by
  have ho:m1.offered=a:=by rw [aa];exact h.offered
  have hp:m1.pool=m.pool:=by rw [aa]
  unfold jE;simp only;rw [ho,U6 (by omega),ae,Nat.sub_self];simp only [List.getElem?_cons_zero];rw [hp,ad,if_pos rfl]
  cases a with
  |zero=>rfl
  |succ a=>
   unfold jE;simp only;rw [List.getElem?_eq_none (by simp;omega)]
 rw [hb];refine⟨rfl,?_⟩
 show qS d k L room j t (a+1) (jE (a+1) _)
 rw [aj]
 refine⟨by rw [aa];exact h.ide,by rw [aa];exact h.bad,by rw [aa];exact h.up,by rw [aa];exact h.wanted,by rw [aa];exact h.kno,by rw [aa];exact h.vot,by rw [aa];exact h.applied,by rw [aa];exact h.loc,
  by rw [aa];exact h.crashed,by rw [aa];exact h.isCut,by rw [aa];exact h.cap,?_,?_,rfl,⟨?_,h.pool.done⟩,by omega⟩
 ·rw [aa]
  show(m.store.log++_).length+room<=_
  rw [N1,ai];omega
 ·show m.acc++_=_
  rw [h.acc,xI,Nat.zero_add];rfl
 show m.pool.waits++_=_
 rw [h.pool.waits,show a+1 - t=(a - t)+1 by omega,xI,List.map_append,show t+(a - t)=a by omega];rfl
def upd(a:Nat->Nat)(i:Nat):Nat->Nat:=λj=>if i=j then a j+1 else a j
theorem QE.logs {P:zgP}{v:Int}{s:StD}{a:Nat->Nat}{n:Nat}{W:zf}(h:QE P v s d a n 0 W):∃L:zP,L.log.length=Zx a n/\(∀i,i<n->(∀j,j<n->j≠i->a j=0)->L.log=jq i d 0 (a i))/\W.nodes.length=n/\∀i,i<n->(zo W i).loc=L:=by
 obtain⟨k,G,room,tk,log2,ns,hC,hL,hp, -⟩:=h.ex;obtain⟨cnt,log,hc⟩:=hC.nodes
 have aa:∀j,j<n->vD tk j=a j:=λj hj=>by
  obtain⟨m,hm, -⟩:=hC.node hj;have h1:a j - vD tk j=0:=YE n hp j hj;have h2:=(hc j m hm).ta;omega
 refine⟨Jl v s tk cnt log log2,?_,λi hi h0=>?_,hC.wn,λi hi=>?_⟩
 ·show log2.length=_
  rw [hL.len];exact qW n aa
 ·show log2=_
  rw [hL.one i hi h0,aa i hi]
 obtain⟨m,hm,hn⟩:=hC.node hi
 rw [hn];exact(hc i m hm).loc
end
open Go
def JX(j:Nat)(d:List UInt8)(a:Nat):List (List UInt8):=(jq j d 0 a).map λm=>[109] ++(j0 [m]).1
theorem ZW(j:Nat)(d:List UInt8)(a:Nat):JX j d (a+1)=JX j d a++ [[109] ++(j0 [(((j:Int),a+1),d)]).1]:=by
 unfold JX;rw [xI,Nat.zero_add,List.map_append];rfl
theorem Je {j a:Nat}(hj:j<16){d:List UInt8}(hd:d.length<=100)(ha:a<100000):([109] ++(j0 [(((j:Int),a+1),d)]).1:List UInt8).length=11+d.length:=by
 rw [VU (by simp only [zx,Bool.and_eq_true,decide_eq_true_eq];omega)];simp only [N1,List.length_cons,List.length_nil,v8];omega
theorem X4 {j:Nat}(hj:j<16){d:List UInt8}(hd:d.length<=100):∀(a:Nat),a<=100000->(recs (JX j d a)).length=a*(20+d.length)
 |0,_=>by rw [Nat.zero_mul];rfl
 |a+1,ha=>by
  rw [ZW,Xk,N1,X4 hj hd a (by omega),jS (by rw [Je hj hd (by omega)];omega),Je hj hd (by omega),Nat.succ_mul];omega
theorem X5 {j:Nat}(hj:j<16){d:List UInt8}(hd:d.length<=100):∀(k t:Nat)(acc:List zA)(p:xH),t+k<=100000->((jq j d t k).map λm=>([109] ++(j0 [m]).1:List UInt8)).foldl jY (acc,p)=(acc++jq j d t k,p)
 |0,t,acc,p,_=>by rw [YZ,List.map_nil,List.foldl_nil,List.append_nil]
 |k+1,t,acc,p,h=>by
  rw [vt,List.map_cons,List.foldl_cons,QZ (by simp only [zx,Bool.and_eq_true,decide_eq_true_eq];omega)];rw [X5 hj hd k (t+1) _ p (by omega),List.append_assoc];rfl
theorem zcI {j:Nat}(hj:j<16){d:List UInt8}(hd:d.length<=100){a:Nat}(ha:a<=900):∀(k o:Nat)(m:zr),o+k=a->m.acc=jq j d 0 a->m.offered=o->Jm j d 0 o m.pool->
 ∃p,Jm j d 0 a p/\∀f,k<f->jE f m={m with pool:=p,offered:=a}
 |0,o,m,h,hacc,ho,hp=>by
  obtain rfl:o=a:=by omega
  refine⟨m.pool,hp,λf hf=>?_⟩
  cases f with
  |zero=>omega
  |succ f=>
   have af:m.acc[m.offered]?=none:=by rw [hacc,ho];exact List.getElem?_eq_none (by rw [je];omega)
   unfold jE;rw [af];subst ho;rfl
 |k+1,o,m,h,hacc,ho,hp=>by
  have hr:zx (((j:Int),o+1),d)=true:=by simp only [zx,Bool.and_eq_true,decide_eq_true_eq];omega
  have aa:m.acc[m.offered]?=some (((j:Int),o+1),d):=by
   rw [hacc,ho];unfold jq;rw [List.getElem?_map,List.getElem?_range' (by omega)];simp
  have h1:zE ((j:Int),o+1) m.pool.waits=none:=by rw [hp.waits];exact Ve j d o _ _ (.inr (by omega))
  have ac:zdB m.pool (((j:Int),o+1),d)=({m.pool with waits:=m.pool.waits++ [(((j:Int),o+1),(((j:Int),o+1),d))] },0):=by
   unfold zdB;rw [if_neg (by rw [hr];simp),if_neg (by rw [h1,hp.done o];simp),if_neg (by rw [hp.waits,List.length_map,je];omega),Vd _ _ _ h1]
  obtain⟨p,ad,ae⟩:=zcI hj hd ha k (o+1) {m with pool:={m.pool with waits:=m.pool.waits++ [(((j:Int),o+1),(((j:Int),o+1),d))] },offered:=m.offered+1} (by omega) hacc (by show m.offered+1=_;rw [ho]) ⟨by
   show m.pool.waits++_=_
   rw [hp.waits,Nat.sub_zero,Nat.sub_zero,xI,List.map_append,Nat.zero_add];rfl,hp.done⟩
  refine⟨p,ad,λf hf=>?_⟩
  cases f with
  |zero=>omega
  |succ f=>
   unfold jE;rw [aa];simp only;rw [ac,if_pos rfl];exact ae f (by omega)
structure za9(v:Int)(d:List UInt8)(j a:Nat)(m:zr):Prop where
 ide:m.id=(j:Int)
 ver:m.version=v
 bad:m.bad=[]
 cap:m.store.cap=262144
 kept:zbQ m.store (JX j d a)
theorem za9.recover {v:Int}{s:StD}{d:List UInt8}{j a:Nat}{m:zr}(h:za9 v d j a m)(hj:j<16)(hd:d.length<=100)(ha:a<=900):qS d 0 (zeT v s) (262144 - 120*a) j 0 a (jt m s)/\za9 v d j a (jt m s):=by
 obtain⟨h1,h2,h3⟩:=Vt h.kept;obtain⟨aj,al,hl, -,hc⟩:=h2;have ak:=hc h3;subst ak;rw [List.append_nil] at hl
 have ae:(zZ m.store).2.foldl yo (vZ {m with store:=(zZ m.store).1} s)={vZ {m with store:=(zZ m.store).1} s with acc:=jq j d 0 a,pax:=xl} :=by
  rw [h1,Xr];have hr:=X5 hj hd a 0 [] xl (by omega)
  show zr.mk _ _ _ _ _ _ _ _ _ _ _ _=_
  have e1:(vZ {m with store:=(zZ m.store).1} s).acc=[]:=rfl;have e2:(vZ {m with store:=(zZ m.store).1} s).pax=xl:=rfl;unfold JX;rw [e1,e2,hr,List.nil_append]
 obtain⟨m1,aa⟩:∃m1,m1=({vZ {m with store:=(zZ m.store).1} s with acc:=jq j d 0 a,pax:=xl} :zr):=⟨_,rfl⟩
 have af:jp 10001 m1=(m1,[]):=by
  rw [show(10001:Nat)=10000+1 from rfl];unfold jp;have:zE ((m1.applied:Int)+1) m1.pax.known=none:=by rw [aa];rfl
  rw [this]
 obtain⟨p,hp,am⟩:=zcI hj hd ha a 0 m1 (by omega) (by rw [aa]) (by rw [aa];rfl) (by
  rw [aa]
  exact⟨rfl,λc=>by show(zE _ []).isSome=_;simp [zE]⟩)
 have ag:jt m s={m1 with pool:=p,offered:=a,down:=false} :=by
  unfold jt;simp only;rw [ae,← aa,af];simp only;rw [am (m1.acc.length+1) (by rw [aa];show a<(jq j d 0 a).length+1;rw [je];omega)]
 have ac:m1.store=(zZ m.store).1:=by rw [aa];rfl
 have ad:(zZ m.store).1.cap=262144:=h.cap;have ah:=X4 hj hd a (by omega);have ai:a*(20+d.length)<=a*120:=Nat.mul_le_mul_left _ (by omega);rw [ag]
 refine⟨⟨by rw [aa];exact h.ide,by rw [aa];exact h.bad,rfl,by rw [aa];rfl,λq _=>by rw [aa];rfl,λq _=>by rw [aa];rfl,by rw [aa];rfl,by rw [aa];show zeT m.version s=_;rw [h.ver],by show m1.store.crashed=_;rw [ac];rfl,by show m1.store.isCut=_;rw [ac];rfl,
  by show m1.store.cap=_;rw [ac];exact ad,?_,by rw [aa],rfl,hp,by omega⟩,⟨by rw [aa];exact h.ide,by rw [aa];exact h.ver,by rw [aa];exact h.bad,by show m1.store.cap=_;rw [ac];exact ad,?_⟩⟩
 ·show m1.store.log.length+_<=_
  rw [ac,hl,ah];omega
 show zbQ m1.store _
 rw [ac];exact⟨aj,[],by rw [List.append_nil];exact hl,ZL,λ_=>rfl⟩
structure Jf where
 acc:List Nat
 del:List Nat
 wait:List (MId×zA)
 logd:List Nat
 log:List zA
def QF(n:Nat):Jf:=⟨List.replicate n 0,List.replicate n 0,[],List.replicate 16 0,[]⟩
def zlV(M:Jf)(x:zA):Option Jf:=
 if zE x.1 M.wait=some x/\x.1.2=M.logd[x.1.1.toNat]?.getD 0+1 then some {M with wait:=Go.Proofs.YtofppfoioodblaaGreatDoor.del x.1 M.wait,logd:=M.logd.set x.1.1.toNat (M.logd[x.1.1.toNat]?.getD 0+1),log:=M.log++ [x] } else none
def Jp(M:Jf)(h:xV):Option Jf:=
 if h.2.1<0∨(M.acc.length:Int)<=h.2.1 then none
 else if h.1=1 then(if zx h.2.2=true/\h.2.2.1.1=h.2.1/\h.2.2.1.2=M.acc[h.2.1.toNat]?.getD 0+1 then some {M with acc:=M.acc.set h.2.1.toNat (M.acc[h.2.1.toNat]?.getD 0+1),wait:=put h.2.2.1 h.2.2 M.wait} else none)
 else if h.1=2 then some M
 else if h.1=3 then
  (match(if M.del[h.2.1.toNat]?.getD 0=M.log.length then zlV M h.2.2 else some M)with
   |none=>none
   |some M'=>if M'.log[M.del[h.2.1.toNat]?.getD 0]?=some h.2.2 then some {M' with del:=M'.del.set h.2.1.toNat (M.del[h.2.1.toNat]?.getD 0+1)} else none)
 else none
def Qs(o:Option Jf)(l:List xV):Option Jf:=l.foldl (λo h=>o.bind λM=>Jp M h) o
theorem qq(o:Option Jf)(a b:List xV):Qs o (a++b)=Qs (Qs o a) b:=List.foldl_append ..
theorem qX {M M':Jf}{h:xV}(hs:Jp M h=some M')(l:List xV):Qs (some M) (h::l)=Qs (some M') l:=by
 unfold Qs;rw [List.foldl_cons,Option.bind_some,hs]
theorem zcJ {K V:Type} [DecidableEq K](k:K)(v:V):∀(l:List (K×V)) (x:K),x∈(put k v l).map (·.1)->x=k∨x∈l.map (·.1)
 | [],x,h=>.inl (by simpa [put] using h)
 |(a,b)::l,x,h=>by
  unfold put at h
  by_cases hk:k=a
  ·rw [if_pos hk] at h
   subst hk
   rcases List.mem_cons.1 (by simpa using h:x∈k::l.map (·.1))with e|e
   ·exact .inl e
   exact .inr (U7 _ e)
  rw [if_neg hk,List.map_cons] at h
  rcases List.mem_cons.1 h with e|e
  ·exact .inr (by rw [e];exact List.mem_cons_self ..)
  rcases zcJ k v l x e with e|e
  ·exact .inl e
  exact .inr (U7 _ e)
theorem X6 {K V:Type} [DecidableEq K](k:K)(v:V):∀(l:List (K×V)),(l.map (·.1)).Nodup->((put k v l).map (·.1)).Nodup
 | [],_=>by simp [put]
 |(a,b)::l,h=>by
  obtain⟨h1,h2⟩:=List.nodup_cons.1 (by simpa using h:(a::l.map (·.1)).Nodup);unfold put
  by_cases hk:k=a
  ·rw [if_pos hk]
   subst hk;exact List.nodup_cons.2 ⟨h1,h2⟩
  rw [if_neg hk,List.map_cons]
  exact List.nodup_cons.2 ⟨λhm=>(zcJ k v l a hm).elim (λe=>hk e.symm) h1,X6 k v l h2⟩
theorem X7 {K V:Type} [DecidableEq K](k:K):∀(l:List (K×V)),((Go.Proofs.YtofppfoioodblaaGreatDoor.del k l).map (·.1)).Sublist (l.map (·.1))
 | []=>List.Sublist.refl _
 |(a,b)::l=>by
  unfold Go.Proofs.YtofppfoioodblaaGreatDoor.del
  split
  ·exact List.sublist_cons_self _ _
  exact(X7 k l).cons_cons _
structure xX(n:Nat)(d:List UInt8)(a:Nat->Nat)(tk:List Nat)(log2:List zA)(dl:Nat->Nat)(M:Jf):Prop where
 acc:M.acc=(List.range n).map a
 del:M.del=(List.range n).map dl
 wait:∀i c:Nat,i<n->zE ((i:Int),c+1) M.wait=if vD tk i<=c/\c<a i then some (((i:Int),c+1),d)else none
 logd:M.logd=tk
 log:M.log=log2
 nodup:(M.wait.map (·.1)).Nodup
variable {n:Nat}{d:List UInt8}{a:Nat->Nat}{tk:List Nat}{log2:List zA}{dl:Nat->Nat}{M:Jf}
theorem X8(f:Nat->Nat){i n:Nat}(hi:i<n):((List.range n).map f)[i]?.getD 0=f i:=by
 rw [List.getElem?_map,List.getElem?_range hi];rfl
theorem X9(f:Nat->Nat){i n:Nat}(v:Nat):((List.range n).map f).set i v=(List.range n).map λj=>if i=j then v else f j:=by
 apply List.ext_getElem?
 intro j;rw [List.getElem?_set,List.getElem?_map,List.getElem?_map]
 by_cases hij:i=j
 ·subst hij
  rw [if_pos rfl]
  by_cases hl:i<n
  ·rw [if_pos (by simpa using hl),List.getElem?_range hl];simp
  rw [if_neg (by simpa using hl),List.getElem?_eq_none (by simp;omega)];rfl
 rw [if_neg hij]
 by_cases hl:j<n
 ·rw [List.getElem?_range hl];simp [hij]
 rw [List.getElem?_eq_none (by simp;omega)];rfl
theorem zlF(n:Nat)(d:List UInt8):xX n d (λ_=>0) (List.replicate 16 0) [] (λ_=>0) (QF n):=by
 refine⟨?_,?_,λi c _=>?_,rfl,rfl,List.nodup_nil⟩
 ·show List.replicate n 0=_
  apply List.ext_getElem?
  intro j;rw [List.getElem?_replicate,List.getElem?_map]
  by_cases hl:j<n
  ·rw [if_pos hl,List.getElem?_range hl];rfl
  rw [if_neg hl,List.getElem?_eq_none (by simp;omega)];rfl
 ·show List.replicate n 0=_
  apply List.ext_getElem?
  intro j;rw [List.getElem?_replicate,List.getElem?_map]
  by_cases hl:j<n
  ·rw [if_pos hl,List.getElem?_range hl];rfl
  rw [if_neg hl,List.getElem?_eq_none (by simp;omega)];rfl
 rw [if_neg (by omega)];rfl
theorem xX.accept(h:xX n d a tk log2 dl M){i:Nat}(hi:i<n)(hn:n<=16)(hd:d.length<=100)(ha:a i<100000)(ht:vD tk i<=a i):∃M',Jp M (1,(i:Int),(((i:Int),a i+1),d))=some M'/\xX n d (upd a i) tk log2 dl M':=by
 have aa:M.acc[i]?.getD 0=a i:=by rw [h.acc];exact X8 a hi
 have ac:M.acc.length=n:=by rw [h.acc];simp
 refine⟨{M with acc:=M.acc.set i (a i+1),wait:=put ((i:Int),a i+1) (((i:Int),a i+1),d) M.wait},?_,?_⟩
 ·unfold Jp
  simp only;rw [if_neg (by omega),if_pos trivial,Int.toNat_natCast,aa,if_pos ⟨by simp only [zx,Bool.and_eq_true,decide_eq_true_eq];omega,trivial,rfl⟩]
 refine⟨?_,h.del,λj c hj=>?_,h.logd,h.log,X6 _ _ _ h.nodup⟩
 ·show M.acc.set i (a i+1)=_
  rw [h.acc,X9]
  apply List.map_congr_left
  intro j _;unfold upd
  by_cases e:i=j
  ·subst e;rw [if_pos rfl]
  rw [if_neg e,if_neg e]
 show zE _ (put _ _ M.wait)=_
 rw [yE]
 by_cases e:i=j
 ·subst e
  unfold upd;rw [if_pos rfl]
  by_cases ec:c=a i
  ·subst ec
   rw [if_pos rfl,if_pos (by omega)]
  rw [if_neg (λe'=>ec (by have:=congrArg Prod.snd e';simp only at this;omega)),h.wait i c hj]
  by_cases hc:vD tk i<=c/\c<a i
  ·rw [if_pos hc,if_pos (by omega)]
  rw [if_neg hc,if_neg (by omega)]
 rw [if_neg (λe'=>e (by have:=congrArg Prod.fst e';simp only at this;omega)),h.wait j c hj]
 unfold upd;rw [if_neg e]
theorem xX.refuse(h:xX n d a tk log2 dl M){i:Nat}(hi:i<n)(m:zA):Jp M (2,(i:Int),m)=some M:=by
 have aa:M.acc.length=n:=by rw [h.acc];simp
 unfold Jp;simp only;rw [if_neg (by omega),if_neg (by omega),if_pos trivial]
def qs(dl:Nat->Nat)(j c:Nat):Nat->Nat:=λk=>if j=k then dl k+c else dl k
theorem xX.first {i j:Nat}(hi:i<n)(hj:j<n)(hn:n<=16):∀(c t:Nat)(tk:List Nat)(log2:List zA)(dl:Nat->Nat)(M:Jf),xX n d a tk log2 dl M->tk.length=16->vD tk i=t->t+c<=a i->dl j=log2.length->
 ∃M',Qs (some M) ((jq i d t c).map λx=>(3,(j:Int),x))=some M'/\xX n d a (tk.set i (t+c)) (log2++jq i d t c) (qs dl j c) M'
 |0,t,tk,log2,dl,M,h,hl,ht,_,_=>by
  refine⟨M,rfl,?_⟩
  have e1:tk.set i (t+0)=tk:=by
   apply List.ext_getElem?
   intro k
   by_cases hk:i=k
   ·subst hk
    rw [List.getElem?_set_self (by omega),← ht];unfold vD;rw [N3 (by omega)];rfl
   rw [List.getElem?_set_ne hk]
  have e2:qs dl j 0=dl:=by funext k;unfold qs;split<;>rfl
  rw [e1,e2,YZ,List.append_nil];exact h
 |c+1,t,tk,log2,dl,M,h,hl,ht,hc,hdl=>by
  have ag:M.acc.length=n:=by rw [h.acc];simp
  have ae:M.del[j]?.getD 0=log2.length:=by rw [h.del,X8 dl hj,hdl]
  have aa:=h.log;have af:M.logd[i]?.getD 0=t:=by rw [h.logd];exact ht
  have hw:=h.wait i t hi;rw [if_pos (by omega)] at hw
  have ad:zlV M (((i:Int),t+1),d)=some {M with wait:=Go.Proofs.YtofppfoioodblaaGreatDoor.del ((i:Int),t+1) M.wait,logd:=M.logd.set i (t+1),log:=M.log++ [(((i:Int),t+1),d)] } :=by
   unfold zlV;simp only;rw [Int.toNat_natCast,af,if_pos ⟨hw,rfl⟩]
  have ac:Jp M (3,(j:Int),(((i:Int),t+1),d))=some {M with wait:=Go.Proofs.YtofppfoioodblaaGreatDoor.del ((i:Int),t+1) M.wait,logd:=M.logd.set i (t+1),log:=M.log++ [(((i:Int),t+1),d)],del:=M.del.set j (log2.length+1)} :=by
   unfold Jp;simp only;rw [if_neg (by omega),if_neg (by omega),if_neg (by omega),if_pos trivial,Int.toNat_natCast,ae,aa,if_pos rfl,ad];simp only;rw [aa,U6 (N0 _),Nat.sub_self,List.getElem?_cons_zero,if_pos rfl]
  have h1:xX n d a (tk.set i (t+1)) (log2++ [(((i:Int),t+1),d)]) (qs dl j 1) {M with wait:=Go.Proofs.YtofppfoioodblaaGreatDoor.del ((i:Int),t+1) M.wait,logd:=M.logd.set i (t+1),log:=M.log++ [(((i:Int),t+1),d)],del:=M.del.set j (log2.length+1)} :=by
   refine⟨h.acc,?_,λk e hk=>?_,by show M.logd.set i (t+1)=_;rw [h.logd],by show M.log++_=_;rw [aa],h.nodup.sublist (X7 _ _)⟩
   ·show M.del.set j _=_
    rw [h.del,X9]
    apply List.map_congr_left
    intro k _;unfold qs
    by_cases e:j=k
    ·subst e;rw [if_pos rfl,if_pos rfl,hdl]
    rw [if_neg e,if_neg e]
   show zE _ (Go.Proofs.YtofppfoioodblaaGreatDoor.del _ M.wait)=_
   by_cases hki:((k:Int),e+1)=((i:Int),t+1)
   ·obtain⟨e1,e2⟩:=Prod.mk.inj hki
    obtain rfl:k=i:=by omega
    obtain rfl:e=t:=by omega
    rw [Zo _ _ h.nodup,if_pos rfl,xW (by omega),if_pos rfl,if_neg (by omega)]
   rw [Zo _ _ h.nodup,if_neg (λe'=>hki e'),h.wait k e hk,xW (by omega)]
   by_cases hik:i=k
   ·subst hik
    have ah:e≠t:=λe'=>hki (by rw [e'])
    rw [if_pos rfl,ht]
    by_cases hc1:t<=e/\e<a i
    ·rw [if_pos hc1,if_pos (by omega)]
    rw [if_neg hc1,if_neg (by omega)]
   rw [if_neg hik]
  obtain⟨M',g1,g2⟩:=xX.first hi hj hn c (t+1) _ _ _ _ h1 (by simpa using hl) (by rw [xW (by omega),if_pos rfl]) (by omega) (by unfold qs;rw [if_pos rfl,N1,hdl];rfl);refine⟨M',?_,?_⟩
  ·rw [vt,List.map_cons,qX ac];exact g1
  rw [List.set_set,List.append_assoc] at g2
  have e2:qs (qs dl j 1) j c=qs dl j (c+1):=by
   funext k
   unfold qs
   by_cases e:j=k
   ·subst e;rw [if_pos rfl,if_pos rfl,if_pos rfl];omega
   rw [if_neg e,if_neg e,if_neg e]
  rw [e2,show t+1+c=t+(c+1)by omega] at g2;rw [vt];exact g2
theorem xX.next {j:Nat}(hj:j<n):∀(new pre:List zA)(dl:Nat->Nat)(M:Jf),xX n d a tk log2 dl M->log2=pre++new->dl j=pre.length->
 ∃M',Qs (some M) (new.map λx=>(3,(j:Int),x))=some M'/\xX n d a tk log2 (qs dl j new.length) M'
 | [],pre,dl,M,h,_,_=>by
   refine⟨M,rfl,?_⟩;have e2:qs dl j 0=dl:=by funext k;unfold qs;split<;>rfl
   rw [List.length_nil,e2];exact h
 |x::new,pre,dl,M,h,hl,hdl=>by
  have ad:M.acc.length=n:=by rw [h.acc];simp
  have ac:M.del[j]?.getD 0=pre.length:=by rw [h.del,X8 dl hj,hdl]
  have aa:Jp M (3,(j:Int),x)=some {M with del:=M.del.set j (pre.length+1)} :=by
   unfold Jp;simp only;rw [if_neg (by omega),if_neg (by omega),if_neg (by omega),if_pos trivial,Int.toNat_natCast,ac,h.log,if_neg (by rw [hl,N1,List.length_cons];omega)];simp only;rw [h.log,hl,U6 (N0 _),Nat.sub_self];simp
  have h1:xX n d a tk log2 (qs dl j 1) {M with del:=M.del.set j (pre.length+1)} :=by
   refine⟨h.acc,?_,h.wait,h.logd,h.log,h.nodup⟩
   show M.del.set j _=_
   rw [h.del,X9]
   apply List.map_congr_left
   intro k _;unfold qs
   by_cases e:j=k
   ·subst e;rw [if_pos rfl,if_pos rfl,hdl]
   rw [if_neg e,if_neg e]
  obtain⟨M',g1,g2⟩:=xX.next hj new (pre++ [x]) _ _ h1 (by rw [hl,List.append_assoc];rfl) (by unfold qs;rw [if_pos rfl,N1,hdl];rfl);refine⟨M',by rw [List.map_cons,qX aa];exact g1,?_⟩
  have e2:qs (qs dl j 1) j new.length=qs dl j (x::new).length:=by
   funext k
   unfold qs;rw [List.length_cons]
   by_cases e:j=k
   ·subst e;rw [if_pos rfl,if_pos rfl,if_pos rfl];omega
   rw [if_neg e,if_neg e,if_neg e]
  rwa [e2] at g2
def zcK(n:Nat)(d:List UInt8)(a:Nat->Nat):zgP:=λss tr tk log2=>
 ss.length=n/\(∀(j:Nat)(s:jN),ss[j]?=some s->s.accepted=a j/\s.delivered=log2.length)/\∃M,Qs (some (QF n)) tr=some M/\xX n d a tk log2 (λ_=>log2.length) M
theorem zcL(hn:n<=16):za7 d a n (zcK n d a):=by
 intro ss tr tk log2 i b c hP _ hi htl hc;obtain⟨am,ah,M0,ak,af⟩:=hP;obtain⟨new,aa⟩:∃new,jq i d (vD tk i) c=new:=⟨_,rfl⟩;have ad:new.length=c:=by rw [← aa,je]
 rw [aa]
 have key:∀k,k<=n->((List.range k).foldl (xA a d (log2++new)) (ss.set i {ss[i]?.getD yA with greatest:=b},tr)).1.length=n/\
  (∀(j:Nat)(s:jN),((List.range k).foldl (xA a d (log2++new)) (ss.set i {ss[i]?.getD yA with greatest:=b},tr)).1[j]?=some s->s.accepted=a j/\s.delivered=if j<k then log2.length+c else log2.length)/\
  ∃M,Qs (some (QF n)) ((List.range k).foldl (xA a d (log2++new)) (ss.set i {ss[i]?.getD yA with greatest:=b},tr)).2=some M/\
   xX n d a (if k=0 then tk else tk.set i (vD tk i+c)) (if k=0 then log2 else log2++new) (λj=>if j<k then log2.length+c else log2.length) M:=by
  intro k
  induction k with
  |zero=>
   intro _;refine⟨by simpa using am,λj s hj=>?_,M0,ak,af⟩;have ae:(ss.set i {ss[i]?.getD yA with greatest:=b})[j]?=some s:=hj
   by_cases hij:i=j
   ·subst hij
    rw [List.getElem?_set_self (by omega)] at ae
    cases ae
    have ao:ss[i]?=some (ss[i]?.getD yA):=by rw [N3 (by omega)];rfl
    have al:=ah i _ ao;exact al
   rw [List.getElem?_set_ne hij] at ae
   exact ah j s ae
  |succ k ih=>
   intro hk;obtain⟨g1,g2,M,g3,g4⟩:=ih (by omega);rw [List.range_succ,List.foldl_append,List.foldl_cons,List.foldl_nil]
   generalize(List.range k).foldl (xA a d (log2++new)) (ss.set i {ss[i]?.getD yA with greatest:=b},tr)=A at*
   obtain⟨ag,ai⟩:=A;simp only at g1 g2 g3;obtain⟨s,hs⟩:∃s,ag[k]?=some s:=⟨_,N3 (by omega)⟩;obtain⟨an,aj⟩:=g2 k s hs;rw [if_neg (by omega)] at aj
   have ht:xA a d (log2++new) (ag,ai) k=(ag.set k {s with accepted:=a k,delivered:=log2.length+c,stale:=false},ai++new.map λx=>(3,(k:Int),x)):=by
    unfold xA;simp only [hs];rw [an,aj,Nat.max_self,N1,ad,Nat.max_eq_right (by omega),List.drop_of_length_le (by rw [je];omega),List.drop_left];rfl
   rw [ht];refine⟨by simpa using g1,λj s' hj=>?_,?_⟩
   ·by_cases hkj:k=j
    ·subst hkj
     rw [List.getElem?_set_self (by omega)] at hj
     cases hj
     exact⟨rfl,by rw [if_pos (by omega)]⟩
    rw [List.getElem?_set_ne hkj] at hj
    have:=g2 j s' hj;refine⟨this.1,this.2.trans ?_⟩
    by_cases hjk:j<k
    ·rw [if_pos hjk,if_pos (by omega)]
    rw [if_neg hjk,if_neg (by omega)]
   have ac:∀ {M'},xX n d a (tk.set i (vD tk i+c)) (log2++new) (qs (λj=>if j<k then log2.length+c else log2.length) k c) M'->
    xX n d a (if k+1=0 then tk else tk.set i (vD tk i+c)) (if k+1=0 then log2 else log2++new) (λj=>if j<k+1 then log2.length+c else log2.length) M':=λ{M'} hM'=>by
    rw [if_neg (by omega),if_neg (by omega)]
    have:qs (λj=>if j<k then log2.length+c else log2.length) k c=λj=>if j<k+1 then log2.length+c else log2.length:=by
     funext j
     show(if k=j then(if j<k then log2.length+c else log2.length)+c else(if j<k then log2.length+c else log2.length))=(if j<k+1 then log2.length+c else log2.length)
     by_cases e:k=j
     ·subst e;rw [if_pos rfl,if_neg (Nat.lt_irrefl k),if_pos (Nat.lt_succ_self k)]
     rw [if_neg e]
     by_cases hjk:j<k
     ·rw [if_pos hjk,if_pos (by omega)]
     rw [if_neg hjk,if_neg (by omega)]
    rwa [this] at hM'
   cases k with
   |zero=>
    rw [if_pos rfl,if_pos rfl] at g4;obtain⟨M',q1,q2⟩:=xX.first (d:=d) (a:=a) hi (show 0<n by omega) hn c (vD tk i) tk log2 _ M g4 htl rfl hc (by simp);rw [aa] at q1 q2;exact⟨M',by rw [qq,g3];exact q1,ac q2⟩
   |succ k=>
    rw [if_neg (by omega),if_neg (by omega)] at g4;obtain⟨M',q1,q2⟩:=xX.next (show k+1<n by omega) new log2 _ M g4 rfl (by simp);rw [ad] at q2;exact⟨M',by rw [qq,g3];exact q1,ac q2⟩
 obtain⟨g1,g2,M,g3,g4⟩:=key n (N0 n);refine⟨g1,λj s hj=>?_,M,g3,?_⟩
 ·have:=g2 j s hj
  rw [if_pos (by have:=(N6.1 hj).1;omega)] at this;rw [N1,ad];exact this
 rw [if_neg (by omega),if_neg (by omega)] at g4
 refine⟨g4.acc,?_,g4.wait,g4.logd,g4.log,g4.nodup⟩;rw [g4.del]
 apply List.map_congr_left
 intro j hj;rw [if_pos (List.mem_range.1 hj),N1,ad]
