/- PARTS OF THE PROOF. -/
import Derived.Laws.Bits64
import Derived.Laws.Bits64b
import Derived.Shelf.Spec.TrailingZeros
import Derived.Test.YtofppfoioodblaaGreatDoorDA14
set_option maxRecDepth 8000
set_option maxHeartbeats 4000000
open Go.Proofs.Tryz
namespace Go.Proofs.YtofppfoioodblaaGreatDoor
section
open Go
def jw(j:Nat)(d:List UInt8)(t k:Nat):List zx:=(List.range' t k).map λc=>(((j:Int),c+1),d)
theorem zgm(j:Nat)(d:List UInt8)(t:Nat):jw j d t 0=[]:=rfl
theorem x8(j:Nat)(d:List UInt8)(t k:Nat):jw j d t (k+1)=(((j:Int),t+1),d)::jw j d (t+1) k:=by
 unfold jw;rw [List.range'_succ];rfl
theorem yx(j:Nat)(d:List UInt8)(t k:Nat):(jw j d t k).length=k:=by simp [jw]
theorem YC(j:Nat)(d:List UInt8)(t k l:Nat):jw j d t (k+l)=jw j d t k++jw j d (t+k) l:=by
 unfold jw;rw [← List.map_append,List.range'_append_1]
theorem zgn(j:Nat)(d:List UInt8)(t k l:Nat):(jw j d t k).take l=jw j d t (min l k):=by
 rcases Nat.le_total l k with h|h
 ·obtain⟨r,rfl⟩:=Nat.exists_eq_add_of_le h
  rw [Nat.min_eq_left h,YC];exact List.take_left' (yx j d t l)
 rw [Nat.min_eq_right h,List.take_of_length_le (by rw [yx];exact h)]
theorem Zp {j:Nat}(hj:j<16){d:List UInt8}(hd:d.length<=1000){t k:Nat}(ht:t+k<=1000000):∀m∈jw j d t k,zz m=true:=λm hm=>by
 obtain⟨c,hc,rfl⟩:=List.mem_map.1 hm;have:=List.mem_range'_1.1 hc;simp only [zz,Bool.and_eq_true,decide_eq_true_eq];omega
theorem zib {m:zx} :∀ {l:List zx},(∀x∈l.head?,ltM m x=true)->zj6 m l=m::l
 | [],_=>rfl
 |x::l,h=>by unfold zj6;rw [if_pos (h x rfl)]
theorem zaf(j:Nat)(d:List UInt8):∀(k t:Nat),Zk (jw j d t k)=jw j d t k
 |0,t=>rfl
 |k+1,t=>by
  rw [x8];have ih:=zaf j d k (t+1);unfold Zk at ih⊢;rw [List.foldr_cons,ih];refine zib (λx hx=>?_)
  cases k with
  |zero=>cases hx
  |succ k=>
   rw [x8] at hx
   cases hx
   simp [ltM]
theorem zbg {d:List UInt8}(hd:d.length<=100):∀(l:List zx),(∀m∈l,m.2=d)->(l.flatMap jk).length<=109*l.length
 | [],_=>by simp
 |m::l,h=>by
  have ih:=zbg hd l (λx hx=>h x (U7 _ hx));rw [List.flatMap_cons,N1,xT,h m (List.mem_cons_self ..),List.length_cons];omega
theorem JW {d:List UInt8}(hd:d.length<=100){l:List zx}(hl:l.length<=8)(hr:∀m∈l,zz m=true)(he:∀m∈l,m.2=d):(ju ⟨1,1,0,l⟩).2=0:=by
 have hp:yj l=([UInt8.ofNat (l.length % 256)] ++l.flatMap jk,0):=by
  unfold yj;rw [if_neg (by omega),if_pos (List.all_eq_true.2 hr)]
 have aa:=zbg hd l he;unfold ju;rw [if_neg (by simp [qg])];rw [if_neg (by rw [hp];simp)];rw [if_neg (by rw [hp];simp only [N1,List.length_cons,List.length_nil,Zm];omega)]
theorem XQ {d:List UInt8}(hd:d.length<=100){era:ZJ}(he:era.1=1):∀(l p:List zx)(r:List UInt8×Bool),p.length+l.length<=8->(∀m∈p++l,zz m=true)->(∀m∈p++l,m.2=d)->
 yn era p l r=if l=[] then r else ZZ ⟨1,1,0,p++l⟩
 | [],p,r,_,_,_=>by unfold yn;rfl
 |m::l,p,r,h,hr,hm=>by
  have hmem:∀x,x∈p++ [m] ->x∈p++m::l:=λx hx=>by
   rcases List.mem_append.1 hx with h|h
   ·exact List.mem_append.2 (.inl h)
   exact List.mem_append.2 (.inr (by simpa using .inl (by simpa using h)))
  have hok:(ZZ ⟨1,era.1,0,p++ [m]⟩).2=true:=by
   rw [he];unfold ZZ;rw [JW hd (by simp at h⊢;omega) (λx hx=>hr x (hmem x hx)) (λx hx=>hm x (hmem x hx))];rfl
  unfold yn;rw [if_pos hok,if_neg (by simp)];rw [XQ hd he l (p++ [m]) _ (by simp at h⊢;omega) (by rw [List.append_assoc];exact hr) (by rw [List.append_assoc];exact hm)]
  by_cases hl:l=[]
  ·rw [if_pos hl,hl,he]
  rw [if_neg hl,List.append_assoc];rfl
def Jw(v:Int)(s:StD)(tk:List Nat)(cnt:Int)(log log2:List zx):zQ:={fold:={book:={tk:=tk,log:=log,ws:=[] },eras:=[(1,v,0)],count:=cnt,sw:=false},st:=s,blk:=false,held:=[],log:=log2}
theorem VH {j:Nat}(hj:j<16){d:List UInt8}(hd:d.length<=1000):∀(k t:Nat)(tk:List Nat)(log:List zx),tk.length=16->tk[j]?=some t->t+k<=1000000->
 zU {tk:=tk,log:=log,ws:=[] } (jw j d t k)=({tk:=tk.set j (t+k),log:=log++jw j d t k,ws:=[] },jw j d t k)
 |0,t,tk,log,hl,ht,_=>by
  rw [zgm];unfold zU
  have:tk.set j (t+0)=tk:=by
   apply List.ext_getElem?
   intro i
   by_cases hi:j=i
   ·subst hi;rw [List.getElem?_set_self (by omega),ht];rfl
   rw [List.getElem?_set_ne hi]
  rw [this,List.append_nil]
 |k+1,t,tk,log,hl,ht,hk=>by
  rw [x8];unfold zU;have hr:zz (((j:Int),t+1),d)=true:=by simp only [zz,Bool.and_eq_true,decide_eq_true_eq];omega
  have aa:xF {tk:=tk,log:=log,ws:=[] } (((j:Int),t+1),d)=({tk:=tk.set j (t+1),log:=log++ [(((j:Int),t+1),d)],ws:=[] },[(((j:Int),t+1),d)],0):=by
   have ab:Jv {tk:=tk,log:=log,ws:=[] } (j:Int)=t+1:=by
    unfold Jv;rw [if_pos (by simp [vG];omega),Int.toNat_natCast,ht];simp only [Option.getD_some];omega
   unfold xF;rw [if_neg (by rw [hr];simp),if_neg (by rw [ab];simp)];simp only [zT,vR,del,List.length_nil,List.foldl_cons,List.foldl_nil,Int.toNat_natCast]
  rw [aa];simp only;have ih:=VH hj hd k (t+1) (tk.set j (t+1)) (log++ [(((j:Int),t+1),d)]) (by simpa using hl) (List.getElem?_set_self (by omega)) (by omega);rw [ih];simp only [List.set_set,List.append_assoc,List.cons_append,List.nil_append];rw [show t+1+k=t+(k+1)by omega]
theorem zgo {v:Int}{s:StD}{j:Nat}(hj:j<16){d:List UInt8}(hd:d.length<=100){t k:Nat}(hk:k<=8)(ht:t+k<=1000000){tk:List Nat}(hl:tk.length=16)(htk:tk[j]?=some t)(cnt:Int)(log log2:List zx)(b:Bool):
 j8 (Jw v s tk cnt log log2) ⟨1,1,0,jw j d t k⟩ b=(Jw v s (tk.set j (t+k)) (cnt+1) (log++jw j d t k) (log2++jw j d t k),jw j d t k,0):=by
 have hr:=Zp hj (d:=d) (by omega) ht;have hm:∀m∈jw j d t k,m.2=d:=λm hm=>by obtain⟨c, -,rfl⟩:=List.mem_map.1 hm;rfl
 have aa:=JW hd (by rw [yx];exact hk) hr hm
 have hA:jX (Jw v s tk cnt log log2).fold ⟨1,1,0,jw j d t k⟩=({book:={tk:=tk.set j (t+k),log:=log++jw j d t k,ws:=[] },eras:=[(1,v,0)],count:=cnt+1,sw:=false},jw j d t k,false,0):=by
  unfold jX;rw [if_neg (by simp [JB,aa]),if_neg (by simp [vo,Jw]),if_pos rfl];have ab:=VH hj (d:=d) (by omega) k t tk log hl htk ht;unfold Jw;simp only;rw [ab]
 unfold j8;rw [hA];unfold zjy qQ yD;simp [Jw]
structure YD(j:Nat)(d:List UInt8)(t a:Nat)(p:xn):Prop where
 waits:p.waits=(jw j d t (a - t)).map λm=>(m.1,m)
 done:∀c,(zH ((j:Int),c+1) p.done).isSome=decide (c<t)
theorem zag {K V:Type} [DecidableEq K](i:K):∀(l:List (K×V)),(∀x∈l,x.1≠i)->del i l=l
 | [],_=>rfl
 |(a,b)::l,h=>by
  unfold del;rw [if_neg (λe=>h (a,b) (List.mem_cons_self ..) e.symm),zag i l (λx hx=>h x (U7 _ hx))]
theorem zea {i j:Nat}(hij:i≠j)(d:List UInt8)(c t k:Nat):∀x∈(jw j d t k).map λm=>(m.1,m),x.1≠((i:Int),c):=λx hx=>by
 obtain⟨m,hm,rfl⟩:=List.mem_map.1 hx;obtain⟨e, -,rfl⟩:=List.mem_map.1 hm;intro h;have:=congrArg Prod.fst h;simp only at this;omega
theorem YD.other {i j:Nat}(hij:i≠j){d:List UInt8}{t a:Nat} :∀(l:List zx)(p:xn),YD j d t a p->(∀m∈l,m.1.1=(i:Int))->YD j d t a (l.foldl yM p)
 | [],p,h,_=>h
 |m::l,p,h,hm=>by
  rw [List.foldl_cons];refine YD.other hij l _ ?_ (λx hx=>hm x (U7 _ hx));obtain⟨⟨o,c⟩,e⟩:=m;have ho:o=(i:Int):=hm _ (List.mem_cons_self ..);subst ho;unfold yM;simp only
  split
  ·exact h
  refine⟨?_,λc'=>?_⟩
  ·show del _ p.waits=_
   rw [h.waits];exact zag _ _ (zea hij d c t (a - t))
  show(zH _ (put _ () p.done)).isSome=_
  rw [yF,if_neg (λe=>by have:=congrArg Prod.fst e;simp only at this;omega)];exact h.done c'
theorem YD.own {j:Nat}{d:List UInt8}{a:Nat} :∀(k t:Nat)(p:xn),YD j d t a p->t+k<=a->YD j d (t+k) a ((jw j d t k).foldl yM p)
 |0,t,p,h,_=>h
 |k+1,t,p,h,hk=>by
  rw [x8,List.foldl_cons]
  have h1:YD j d (t+1) a (yM p (((j:Int),t+1),d)):=by
   unfold yM;simp only;rw [if_neg (by rw [h.done t];simp)];refine⟨?_,λc=>?_⟩
   ·show del _ p.waits=_
    rw [h.waits,show a - t=(a - (t+1))+1 by omega,x8,List.map_cons];unfold del;rw [if_pos rfl]
   show(zH _ (put _ () p.done)).isSome=_
   rw [yF]
   by_cases hc:c=t
   ·subst hc;rw [if_pos rfl];simp
   rw [if_neg (λe=>hc (by have:=congrArg Prod.snd e;simp only at this;omega)),h.done c]
   exact decide_eq_decide.2 (by omega)
  have:=YD.own k (t+1) _ h1 (by omega)
  rwa [show t+1+k=t+(k+1)by omega] at this
theorem YE {n:zq}(h1:n.store.crashed=false)(h2:n.store.isCut=false)(h3:n.store.cap=262144){d:List UInt8}(hd:d.length<=4096)(hr:n.store.log.length+d.length+9<=262144)(part:Bool):
 yk n part d=({n with store:={n.store with log:=n.store.log++(zJ d).1}},0):=by
 have hw:jb n.store d=({n.store with log:=n.store.log++(zJ d).1},0):=by
  unfold jb;rw [if_neg (by rw [h1];simp),if_neg (by rw [Yq hd];simp),if_neg (by rw [h3,yw hd];omega),if_pos h2]
 unfold yk;rw [hw];simp
structure VZ(d:List UInt8)(k:Nat)(L:zQ)(room j t a:Nat)(m:zq):Prop where
 ide:m.id=(j:Int)
 bad:m.bad=[]
 up:m.down=false
 wanted:m.wanted=0
 kno:∀q:Int,(k:Int)<q->zH q m.pax.known=none
 vot:∀q:Int,(k:Int)<q->zH q m.pax.votes=none
 applied:m.applied=k
 loc:m.loc=L
 crashed:m.store.crashed=false
 isCut:m.store.isCut=false
 cap:m.store.cap=262144
 room:m.store.log.length+room<=262144
 acc:m.acc=jw j d 0 a
 offered:m.offered=a
 pool:YD j d t a m.pool
 ta:t<=a
variable {d:List UInt8}{k room j t a:Nat}{L:zQ}{m:zq}
theorem VZ.next(h:VZ d k L room j t a m):yE m=k+1:=by
 unfold yE;rw [h.applied];unfold JG;rw [h.kno _ (by omega)];rfl
def Z2(v:Int):Nat:=if v=1 then 1 else 8
def qz(j:Nat)(d:List UInt8)(t c:Nat):List UInt8:=(ju ⟨1,1,0,jw j d t c⟩).1
theorem V5(hj:j<16)(hd:d.length<=100){c:Nat}(hc:c<=8)(ht:t+c<=1000000):(ju ⟨1,1,0,jw j d t c⟩).2=0:=
 JW hd (by rw [yx];exact hc) (Zp hj (d:=d) (by omega) ht) (λm hm=>by obtain⟨c, -,rfl⟩:=List.mem_map.1 hm;rfl)
theorem zcG(hj:j<16)(hd:d.length<=100){c:Nat}(hc:c<=8)(ht:t+c<=1000000):(qz j d t c).length<=900:=by
 have h1:=(XD (V5 hj hd hc ht)).2.2.1;have h2:=zd1 (XD (V5 hj hd hc ht)).2.1;have h3:=zbg hd (jw j d t c) (λm hm=>by obtain⟨c, -,rfl⟩:=List.mem_map.1 hm;rfl);rw [yx] at h3;unfold qz;rw [h1,h2.2.2];simp only [N1,List.length_cons,List.length_nil,Zm];omega
theorem zcH(hj:j<16)(hd:d.length<=100){c:Nat}(hc:c<=8)(ht:t+c<=1000000):jq (qz j d t c)=(⟨1,1,0,jw j d t c⟩,0):=za5 (V5 hj hd hc ht) (by show 1<_;omega)
theorem VZ.proposal {v:Int}{s:StD}{tk:List Nat}{cnt:Int}{log log2:List zx}(h:VZ d k (Jw v s tk cnt log log2) room j t a m)(hv:known v=true)(hj:j<16)(hd:d.length<=100)(ha:a<=1000000):
 jN m=if a - t=0 then([],false)else(qz j d t (min (Z2 v) (a - t)),true):=by
 have ad:=h.ta;unfold jN;rw [if_neg (by rw [h.up];simp),if_neg (by rw [h.loc];simp [Jw]),if_neg (by rw [h.wanted];simp)]
 have aa:(if(if known (vo m.loc.fold.eras).2.1 then(if(vo m.loc.fold.eras).2.1=1 then(1:Int)else 2)else 0)=1 then 1 else 8)=Z2 v:=by
  rw [h.loc]
  show(if(if known v then(if v=1 then(1:Int)else 2)else 0)=1 then 1 else 8)=Z2 v
  rw [if_pos hv];unfold Z2
  by_cases h1:v=1
  ·rw [if_pos h1,if_pos h1,if_pos rfl]
  rw [if_neg h1,if_neg h1,if_neg (by omega)]
 have ae:Z2 v<=8:=by unfold Z2;split<;>omega
 have hb:ZX m.pool (Z2 v)=jw j d t (min (Z2 v) (a - t)):=by
  unfold ZX;rw [h.pool.waits,List.map_map];rw [show((λx:MId×zx=>x.2)∘ λm:zx=>(m.1,m))=id from rfl,List.map_id,zaf,zgn]
 rw [aa,hb];have he:(vo m.loc.fold.eras).1=1:=by rw [h.loc];rfl
 have ac:min (Z2 v) (a - t)<=8:=by omega
 have ab:t+min (Z2 v) (a - t)<=1000000:=by omega
 rw [XQ (d:=d) hd he _ [] _ (by rw [yx];simpa using ac) (by simpa using Zp hj (d:=d) (by omega) ab) (λx hx=>by
  obtain⟨c, -,rfl⟩:=List.mem_map.1 (show x∈jw j d t (min (Z2 v) (a - t))by simpa using hx);rfl)]
 have af:1<=Z2 v:=by unfold Z2;split<;>omega
 by_cases h0:a - t=0
 ·rw [if_pos h0,if_pos (by rw [h0,Nat.min_zero];rfl)]
 rw [if_neg h0,if_neg (λe=>by have:=congrArg List.length e;rw [yx] at this;simp only [List.length_nil] at this;omega)]
 rw [List.nil_append];unfold ZZ qz;rw [V5 hj hd ac ab];rfl
theorem zic {p:xn}{l:List zx}(h:∀m∈l,zz m=true):JQ p l=l.foldl yM p:=by
 unfold JQ;rw [if_pos (List.all_eq_true.2 h)]
theorem xr(kind:UInt8)(i:Int)(more:List UInt8):(xI kind i more).length=5+more.length:=by
 unfold xI;simp only [N1,List.length_cons,List.length_nil,Zm]
theorem VZ.led {v:Int}{s:StD}{tk:List Nat}{cnt:Int}{log log2:List zx}(h:VZ d k (Jw v s tk cnt log log2) (room+2000) j t a m)(hd:d.length<=100)(hk:k<10000){b:Nat}(hb:1<=b)
 {i ti c:Nat} (hi:i<16) (htl:tk.length=16) (hti:tk[i]?=some ti) (htj:tk[j]?=some t) (hc:c<=8) (htc:ti+c<=1000000) (hca:i=j->t+c<=a):
 (m.down=false/\zH ((k+1:Nat):Int) m.pax.known=none/\(zy m ((k+1:Nat):Int) b).2=((b,0,[]),0)/\(zy m ((k+1:Nat):Int) b).1.down=false/\zH ((k+1:Nat):Int) (zy m ((k+1:Nat):Int) b).1.pax.known=none/\
  (yH (zy m ((k+1:Nat):Int) b).1 ((k+1:Nat):Int) b (qz i d ti c)).2=0/\(yH (zy m ((k+1:Nat):Int) b).1 ((k+1:Nat):Int) b (qz i d ti c)).1.down=false)/\
 VZ d (k+1) (Jw v s (tk.set i (ti+c)) (cnt+1) (log++jw i d ti c) (log2++jw i d ti c)) room j (if i=j then ti+c else t) a (zmG ((k+1:Nat):Int) b (qz i d ti c) m):=by
 have ad:z8 ((k+1:Nat):Int)=true:=by simp [z8];omega
 have a6:=zcG hi hd hc htc;have ai:=zcH hi hd hc htc;have a7:=λb=>zgo (v:=v) (s:=s) hi hd hc htc htl hti cnt log log2 b
 have a4:=Zp hi (d:=d) (by omega) htc;obtain⟨x,hx⟩:∃x,qz i d ti c=x:=⟨_,rfl⟩;rw [hx] at a6 ai⊢;obtain⟨q,hq⟩:∃q:Int,((k+1:Nat):Int)=q:=⟨_,rfl⟩;have am:(k:Int)<q:=by omega
 rw [hq] at ad⊢;have ar:=h.room
 have hp:zy m q b=({m with pax:={m.pax with votes:=put q (b,0,[]) m.pax.votes},store:={m.store with log:=m.store.log++(zJ (xI 112 q (le8 b))).1}},(b,0,[]),0):=by
  have ap:ja m.pax q=(0,0,[]):=by unfold ja;rw [h.vot q am];rfl
  have ax:yl (0,0,[]) b=((b,0,[]),0):=by
   unfold yl;rw [if_neg (by simp [j9];omega),if_neg (by simp;omega)]
  have a5:zA m.pax q b=({m.pax with votes:=put q (b,0,[]) m.pax.votes},(b,0,[]),xI 112 q (le8 b),0):=by
   unfold zA;rw [if_neg (by rw [ad];simp),ap,ax,if_neg (by simp)]
  unfold zy;rw [if_neg (by rw [h.up];simp),a5];simp only;rw [if_neg (by simp),YE (n:={m with pax:={m.pax with votes:=put q (b,0,[]) m.pax.votes}}) h.crashed h.isCut h.cap (by rw [xr,qI];omega) (by rw [xr,qI];show m.store.log.length+_+_<=_;omega) true];simp
 have l1:(zJ (xI 112 q (le8 b))).1.length=22:=by rw [yw (by rw [xr,qI];omega),xr,qI]
 obtain⟨m1,aa⟩:∃m1,m1=({m with pax:={m.pax with votes:=put q (b,0,[]) m.pax.votes},store:={m.store with log:=m.store.log++(zJ (xI 112 q (le8 b))).1}} :zq):=⟨_,rfl⟩;rw [← aa] at hp;have r1:m1.store.log.length=m.store.log.length+22:=by rw [aa];show(m.store.log++_).length=_;rw [N1,l1]
 have ag:yH m1 q b x=({m1 with pax:={m1.pax with votes:=put q (b,b,x) m1.pax.votes},store:={m1.store with log:=m1.store.log++(zJ (xI 118 q (le8 b++x))).1}},0):=by
  have ap:ja m1.pax q=(b,0,[]):=by
   unfold ja;rw [aa]
   show(zH q (put q (b,0,[]) m.pax.votes)).getD _=_
   rw [j2];rfl
  have a8:Vb (b,0,[]) b x=((b,b,x),0):=by
   unfold Vb;rw [if_neg (by simp [j9];omega),if_neg (by simp)]
  have a1:vJ m1.pax q b x=({m1.pax with votes:=put q (b,b,x) m1.pax.votes},xI 118 q (le8 b++x),0):=by
   unfold vJ;rw [if_neg (by rw [ad];simp),ap,a8,if_neg (by simp)]
  unfold yH;rw [if_neg (by rw [aa];show¬m.down=true;rw [h.up];simp),a1];simp only
  rw [if_neg (by simp),YE (n:={m1 with pax:={m1.pax with votes:=put q (b,b,x) m1.pax.votes}}) (by rw [aa];exact h.crashed) (by rw [aa];exact h.isCut) (by rw [aa];exact h.cap) (by rw [xr,N1,qI];omega)
   (by rw [xr,N1,qI];show m1.store.log.length+_+_<=_;omega) true]
 have l2:(zJ (xI 118 q (le8 b++x))).1.length=22+x.length:=by rw [yw (by rw [xr,N1,qI];omega),xr,N1,qI];omega
 obtain⟨m2,ab⟩:∃m2,m2=({m1 with pax:={m1.pax with votes:=put q (b,b,x) m1.pax.votes},store:={m1.store with log:=m1.store.log++(zJ (xI 118 q (le8 b++x))).1}} :zq):=⟨_,rfl⟩;rw [← ab] at ag;have r2:m2.store.log.length=m.store.log.length+44+x.length:=by rw [ab];show(m1.store.log++_).length=_;rw [N1,l2,r1];omega
 have k2:m2.pax.known=m.pax.known:=by rw [ab,aa]
 have d2:m2.down=false:=by rw [ab,aa];exact h.up
 refine⟨⟨h.up,h.kno q am,by rw [hp],by rw [hp,aa];exact h.up,by rw [hp,aa];exact h.kno q am,by rw [hp];show(yH m1 q b x).2=0;rw [ag],by rw [hp];show(yH m1 q b x).1.down=false;rw [ag];exact d2⟩,?_⟩;have an:zmG q b x m=(jd m2 q x).1:=by unfold zmG;rw [hp];show(jd (yH m1 q b x).1 q x).1=_;rw [ag]
 obtain⟨af,ay⟩:∃af,zV m2.pax q x=({m2.pax with known:=put q x m2.pax.known,length:=af},xI 100 q x,0):=by
  unfold zV;rw [if_neg (by rw [ad];simp;omega),k2,h.kno q am];exact⟨_,rfl⟩
 have a3:xI 100 q x≠ []:=λe=>by have:=congrArg List.length e;rw [xr] at this;simp at this
 have aj:=YE (n:={m2 with pax:={m2.pax with known:=put q x m2.pax.known,length:=af}}) (by rw [ab,aa];exact h.crashed) (by rw [ab,aa];exact h.isCut) (by rw [ab,aa];exact h.cap) (d:=xI 100 q x) (by rw [xr];omega)
  (by rw [xr];show m2.store.log.length+_+_<=_;omega) true
 have l3:(zJ (xI 100 q x)).1.length=14+x.length:=by rw [yw (by rw [xr];omega),xr];omega
 obtain⟨m3,ac⟩:∃m3,m3=({m2 with pax:={m2.pax with known:=put q x m2.pax.known,length:=af},store:={m2.store with log:=m2.store.log++(zJ (xI 100 q x)).1}} :zq):=⟨_,rfl⟩
 have ah:(jd m2 q x).1=(jB 10001 m3).1:=by
  unfold jd;rw [if_neg (by rw [d2];simp)];simp only;rw [ay];simp only;rw [if_neg (by simp),if_neg a3,aj];simp only;rw [if_neg (by simp),← ac]
 have aw:m3.applied=k:=by rw [ac,ab,aa];exact h.applied
 have aq:m3.pax.known=put q x m.pax.known:=by rw [ac];show put q x m2.pax.known=_;rw [k2]
 have a2:zH ((m3.applied:Int)+1) m3.pax.known=some x:=by rw [aw,aq,show((k:Int)+1)=q by omega];exact j2 _ _ _
 obtain⟨m4,au⟩:∃m4,m4=(vW {m3 with applied:=m3.applied+1} ⟨1,1,0,jw i d ti c⟩).1:=⟨_,rfl⟩
 have ak:YD j d (if i=j then ti+c else t) a (JQ (JQ m.pool (jw i d ti c)) []):=by
  rw [zic a4]
  show YD j d _ a (([]:List zx).foldl yM ((jw i d ti c).foldl yM m.pool))
  rw [List.foldl_nil]
  by_cases hij:i=j
  ·subst hij
   rw [if_pos rfl];rw [hti] at htj
   cases htj
   exact YD.own c _ m.pool h.pool (hca rfl)
  rw [if_neg hij]
  exact YD.other hij _ _ h.pool (λy hy=>by obtain⟨e, -,rfl⟩:=List.mem_map.1 hy;rfl)
 have ae:m4={m3 with applied:=k+1,loc:=Jw v s (tk.set i (ti+c)) (cnt+1) (log++jw i d ti c) (log2++jw i d ti c),pool:=JQ (JQ m.pool (jw i d ti c)) [] } :=by
  have al:m3.loc=Jw v s tk cnt log log2:=by rw [ac,ab,aa];exact h.loc
  have a0:∀n:zq,n.acc.length=n.offered->∀f,jR f n=n:=λn hn f=>by
   cases f with
   |zero=>rfl
   |succ f=>
    unfold jR;rw [List.getElem?_eq_none (by omega)]
  rw [au];unfold vW;simp only;rw [al,a7];simp only;rw [a0 _ (by show m3.acc.length=m3.offered;rw [ac,ab,aa];show m.acc.length=m.offered;rw [h.acc,h.offered,yx])];have a9:m3.wanted=0:=by rw [ac,ab,aa];exact h.wanted
  have az:m3.pool=m.pool:=by rw [ac,ab,aa]
  rw [aw,az];have:(if vo (Jw v s (tk.set i (ti+c)) (cnt+1) (log++jw i d ti c) (log2++jw i d ti c)).fold.eras=vo (Jw v s tk cnt log log2).fold.eras then m3.wanted else 0)=m3.wanted:=if_pos rfl;rw [this];rfl
 have ao:(jB 10001 m3).1=m4:=by
  have h2:jB 10000 m4=(m4,[]):=by
   unfold jB
   have:zH ((m4.applied:Int)+1) m4.pax.known=none:=by
    rw [ae]
    show zH (((k+1:Nat):Int)+1) m3.pax.known=none
    rw [aq,yF,if_neg (by omega)];exact h.kno _ (by omega)
   rw [this]
  rw [show(10001:Nat)=10000+1 from rfl];unfold jB;rw [a2];simp only;rw [ai];rw [if_neg (by simp)]
  show(jB 10000 (vW {m3 with applied:=m3.applied+1} ⟨1,1,0,jw i d ti c⟩).1).1=m4
  rw [← au,h2]
 rw [an,ah,ao,ae];have r3:m3.store.log.length=m.store.log.length+58+2*x.length:=by rw [ac];show(m2.store.log++_).length=_;rw [N1,l3,r2];omega
 refine⟨by show m3.id=_;rw [ac,ab,aa];exact h.ide,by show m3.bad=_;rw [ac,ab,aa];exact h.bad,by show m3.down=_;rw [ac];exact d2,by show m3.wanted=_;rw [ac,ab,aa];exact h.wanted,λp hp=>?_,λp hp=>?_,rfl,rfl,
  by show m3.store.crashed=_;rw [ac,ab,aa];exact h.crashed,by show m3.store.isCut=_;rw [ac,ab,aa];exact h.isCut,by show m3.store.cap=_;rw [ac,ab,aa];exact h.cap,by show m3.store.log.length+room<=_;omega,
  by show m3.acc=_;rw [ac,ab,aa];exact h.acc,by show m3.offered=_;rw [ac,ab,aa];exact h.offered,ak,?_⟩
 ·show zH p m3.pax.known=none
  rw [aq,yF,if_neg (by omega)];exact h.kno _ (by omega)
 ·show zH p m3.pax.votes=none
  rw [ac,ab,aa]
  show zH p (put q _ (put q _ m.pax.votes))=none
  rw [yF,if_neg (by omega),yF,if_neg (by omega)];exact h.vot _ (by omega)
 split
 ·rename_i hij
  subst hij;rw [hti] at htj
  cases htj
  exact hca rfl
 exact h.ta
end
section
open Go Go.RowKit Go.Shelf Go.Extern.Stop Go.Stop Go.Extern
attribute [local go_sem] Oper.semAt_some zB zo
def Jy:Value:=.agg #[]
def VI(p:xn):Prop:=(∀q∈p.waits,q.2.1=q.1)/\(p.waits.map (·.1)).Nodup/\p.waits.length<=1000
def xB(wb db:Nat):Array Value:=#[.map (some wb),.map (some db)]
def jY(B:Nat)(p:xn)(t:List Nat)(ow:Own)(W:World):Prop:=
 VI p/\∃wb db,Blk W B (xB wb db) 231/\zZ W wb idV (p.waits.map λq=>(q.1,vO q.2))/\zZ W db idV (p.done.map λq=>(q.1,Jy))/\wb≠db/\ow B=t/\ow wb=t/\ow db=t
theorem jY.loc(B:Nat)(p:xn)(t:List Nat):yC t (jY B p t):=by
 rintro ow ow' W W'⟨hl,vb,kb,hB,hv,hk,ab,o1,o2,o3⟩ hs aa;have kB:=aa B hB.lt (by rw [o1];exact Sub.rfl' t);have kv:=aa vb hv.lt (by rw [o2];exact Sub.rfl' t);have kk:=aa kb hk.lt (by rw [o3];exact Sub.rfl' t);exact⟨hl,vb,kb,hB.kept kB.2,hv.kept kv.2,hk.kept kk.2,ab,kB.1.trans o1,kv.1.trans o2,kk.1.trans o3⟩
def zkh(B:Nat)(p:xn)(t:List Nat)(ow:Own)(w:World)(v:Value)(e:Ending)(w':World):Prop:=
 e=.returned v/\∃ow',zp t ow w ow' w'/\jY B p t ow' w'
def zeb(t:List Nat)(ow:Own)(w:World)(e:Ending)(w':World):Prop:=
 ∃B ow',e=.returned (.pointer (some ⟨B,0,none⟩))/\zp t ow w ow' w'/\Below w.heap.size w w'/\jY B Zj t ow' w'/\w.heap.size<=B
theorem zid(t:List Nat)(ow:Own)(w:World):Calls prog 89 #[] w (zeb t ow w):=by
 have aa:= @run_makeMap prog
 go_enter func89,ntmps89
 go_wp2;go_ret
 have hb:Below w.heap.size w (((w.alloc (.map #[] 0)).alloc (.map #[] 0)).alloc (.cells #[.map (some w.heap.size),.map (some (w.heap.size+1))] 231)):=pbx;refine⟨w.heap.size+2,ow.ext w.heap.size (λ_=>True) t,rfl,⟨Mod.of_below _ hb,λk hk=>Own.ext_old hk⟩,hb,⟨⟨by simp [Zj],by simp [Zj],by simp [Zj]⟩,w.heap.size,w.heap.size+1,Blk.new (by simp),?_,?_,by omega,Own.ext_new (by omega) trivial,Own.ext_new (by omega) trivial,Own.ext_new (by omega) trivial⟩,by omega⟩
 ·exact((zZ.made w idV).kept (U4 _ _ _ (by simp))).kept (U4 _ _ _ (by simp;omega))
 have h:=(zZ.made (w.alloc (.map #[] 0)) idV).kept (U4 (w.alloc (.map #[] 0)|>.alloc (.map #[] 0)) (.cells #[.map (some w.heap.size),.map (some (w.heap.size+1))] 231) _ (by simp))
 simpa [Zj] using h
theorem QD(b:Nat)(w:World):(binOp .eql 228 (.map (some b)) (.map none)).run prog w=.ok (.bool false) w:=by kernel_rfl
theorem zie(w:World):(zeroValue 294).run prog w=.ok (.agg #[.int .i64 0,.int .u32 0,.string ⟨#[]⟩]) w:=by kernel_rfl
theorem zif(w:World):(zeroValue 190).run prog w=.ok Jy w:=by kernel_rfl
theorem YF(B:Nat)(wb db:Nat)(w:World)(hB:Blk w B (xB wb db) 231):Calls prog 182 #[.pointer (some ⟨B,0,none⟩)] w λe w'=>e=.returned (.bool false)/\w'=w:=by
 unfold xB at hB;have e0:=hB.cell;have h0:=QD wb w
 go_enter func182,ntmps182
 go_wp2;go_ret
 exact⟨rfl,rfl⟩
theorem zfg(B:Nat)(p:xn)(t:List Nat)(ow:Own)(i:Int)(c:Nat)(w:World)(h:jY B p t ow w):
 Calls prog 183 #[.pointer (some ⟨B,0,none⟩),.agg #[.int .i64 i,.int .u32 c]] w λe w'=>e=.returned (.bool (zH (i,c) p.done).isSome)/\Below w.heap.size w w':=by
 obtain⟨hl,wb,db,hB,hv,hk,ae,o1,o2,o3⟩:=h;have aa:=λW hW=>YF B wb db W hW
 unfold xB at hB aa
 have ab:∀W,Below w.heap.size w W->(Instr.lookup 229 (.map (some db)) (.agg #[.int .i64 i,.int .u32 c]) true).run prog W=.ok (.tuple #[.agg #[],.bool (zH (i,c) p.done).isSome]) W:=λW hW=>by
  have ab:=(hk.kept (hW.block db hk.lt)).lookup_ok zaN Tryz.underlying229 (zif W) (i,c);have ad:=xO (λ_:Unit=>Jy) ((i,c):MId) p.done;rw [ad,Option.isSome_map,show((zH (i,c) p.done).map λ_=>Jy).getD Jy=Jy by cases zH (i,c) p.done<;>rfl] at ab;exact ab
 clear hv hk hl
 generalize(zH (i,c) p.done).isSome=b at*
 replace aa:=hid aa;replace ab:=hid ab;have ac:=hB.alloc (.cells #[.int .i64 i,.int .u32 c] 76);have hX:Blk (w.alloc (.cells #[.int .i64 i,.int .u32 c] 76)) w.heap.size #[.int .i64 i,.int .u32 c] 76:=Blk.new rfl;replace hB:=hid hB
 go_enter func183,ntmps183
 go_wp2_with fail
 refine(aa.out _ ac).mono ?_;rintro e w1⟨rfl,rfl⟩;go_wp2_with fail
 refine zd [O 0,O 1,O 2,O 3,O 4,O 5,O 6,O 7,O 8,E 9,E 10,O 11] none (λw'=>Blk w' B #[.map (some wb),.map (some db)] 231/\Blk w' w.heap.size #[.int .i64 i,.int .u32 c] 76/\(Instr.lookup 229 (.map (some db)) (.agg #[.int .i64 i,.int .u32 c]) true).run prog w'=.ok (.tuple #[.agg #[],.bool b]) w'/\True) (by kernel_rfl) (by kernel_rfl) ⟨ac.drew,hX.drew,ab.out _ (pbx),trivial⟩ ?_
 refine Wi ?_
 refine zc rfl (λK hK=>?_);go_wp2;refine hK.out _ _ (λ_=>⟨ac.drew.alloc _,hX.drew.alloc _,ab.out _ (pbx),trivial⟩) ?_;clear hK K;refine zc rfl (λK hK=>?_);go_wp2;refine hK.out _ _ (λ_=>⟨ac.drew.alloc _,hX.drew.alloc _,ab.out _ (pbx),trivial⟩) ?_;clear hK K
 refine Wi ?_
 refine zg ?_;go_wp2;go_ret
 exact⟨rfl,pbx⟩
theorem zfh {V:Type}(k:MId)(v:V):∀(l:List (MId×V)),(put k v l).map (·.1)=if k∈l.map (·.1)then l.map (·.1)else l.map (·.1)++ [k]
 | []=>by simp [put]
 |(k',v')::l=>by
  have ih:=zfh k v l;unfold put
  by_cases h:k=k'
  ·subst h;simp
  rw [if_neg h]
  simp only [List.map_cons,ih,List.mem_cons,h,false_or]
  split<;>simp
theorem zig {V:Type}(k:MId)(v:V):∀(l:List (MId×V)) (q),q∈put k v l->q=(k,v)∨q∈l
 | [],q,h=>by simpa [put] using h
 |(k',v')::l,q,h=>by
  unfold put at h
  split at h
  ·rcases List.mem_cons.1 h with h|h
   ·exact .inl h
   exact .inr (U7 _ h)
  rcases List.mem_cons.1 h with h|h
  ·exact .inr (h ▸ List.mem_cons_self ..)
  rcases zig k v l q h with h|h
  ·exact .inl h
  exact .inr (U7 _ h)
theorem zfi {V:Type}(k:MId)(v:V):∀(l:List (MId×V)),(put k v l).length<=l.length+1
 | []=>by simp [put]
 |(k',v')::l=>by
  have ih:=zfi k v l;unfold put
  split
  ·simp
  simp;omega
theorem zfj {V:Type}(k:MId):∀(l:List (MId×V)),(del k l).length<=l.length
 | []=>by simp [del]
 |(k',v')::l=>by
  have ih:=zfj k l;unfold del
  split
  ·simp
  simp;omega
theorem VI.add {p:xn}(h:VI p)(m:zx)(hl:p.waits.length<1000):VI {p with waits:=put m.1 m p.waits} :=by
 refine⟨λq hq=>?_,?_,?_⟩
 ·rcases zig _ _ _ _ hq with rfl|hq
  ·rfl
  exact h.1 q hq
 ·show((put m.1 m p.waits).map (·.1)).Nodup
  rw [zfh]
  split
  ·exact h.2.1
  rename_i hn
  rw [List.nodup_append];exact⟨h.2.1,by simp,λa ha b hb=>by simp at hb;subst hb;exact λe=>hn (e ▸ ha)⟩
 have:=zfi m.1 m p.waits
 show(put m.1 m p.waits).length<=1000
 omega
theorem VI.less {p:xn}(h:VI p)(k:MId)(d:List (MId×Unit)):VI {waits:=del k p.waits,done:=d} :=by
 refine⟨λq hq=>h.1 q (zdK _ _ _ hq),?_,Nat.le_trans (zfj _ _) h.2.2⟩
 show((del k p.waits).map (·.1)).Nodup
 have:∀l:List (MId×zx),((del k l).map (·.1)).Sublist (l.map (·.1)):=by
  intro l
  induction l with
  |nil=>simp [del]
  |cons x l ih=>
   obtain⟨k',v'⟩:=x;unfold del
   split
   ·exact List.sublist_cons_self _ _
   exact ih.cons_cons _
 exact(this p.waits).nodup h.2.1
theorem zih {P:Program}{W:World}{b n:Nat}{es:Array MapEntry}{ck:Nat}(h:W.heap[b]?=some (.map es ck))(hs:es.size=n){mt kt et:TypeId}(hm:P.underlying mt=some (.map kt et))(rt:TypeId):(Builtin.len_ #[mt] rt #[.map (some b)]).run P W=.ok (.int .i64 n) W:=by
 simp [Builtin.len_,run_underlying hm,j6 h,hs,goInt]
theorem zii(B:Nat)(p:xn)(t:List Nat)(ow:Own)(m:zx)(w:World)(h:jY B p t ow w):
 Calls prog 139 #[.pointer (some ⟨B,0,none⟩),vO m] w (zkh B (zf3 p m).1 t ow w (.int .i64 (zf3 p m).2)):=by
 obtain⟨⟨i,c⟩,d⟩:=m;have h0:=h;obtain⟨a5,wb,db,hB,hv,hk,a2,o1,o2,o3⟩:=h;have aj:=λW hW=>YF B wb db W hW
 have aa:=λW=>vS i c d W
 have ad:=λW hW=>zfg B p t ow i c W hW
 unfold xB at hB aj;unfold vO;have ac:zf3 p ((i,c),d)=if zz ((i,c),d)=false then(p,100)else if(zH (i,c) p.waits).isSome∨(zH (i,c) p.done).isSome then(p,0)else if 1000<=p.waits.length then(p,120)else({p with waits:=put (i,c) ((i,c),d) p.waits},0):=rfl
 have ab:∃a b x,∀W,Below w.heap.size w W->(Instr.lookup 228 (.map (some wb)) (.agg #[.int .i64 i,.int .u32 c]) true).run prog W=.ok (.tuple #[.agg #[.int .i64 a,.int .u32 b,.string x],.bool (zH (i,c) p.waits).isSome]) W:=by
  have ab:=λW (hW:Below w.heap.size w W)=>(hv.kept (hW.block wb hv.lt)).lookup_ok zaN Tryz.underlying228 (zie W) (i,c)
  simp only [xO,Option.isSome_map] at ab
  cases hl:zH (i,c) p.waits with
  |none=>rw [hl] at ab;exact⟨_,_,_,ab⟩
  |some y=>rw [hl] at ab;exact⟨_,_,_,ab⟩
 obtain⟨la,lb,lx,ab⟩:=ab
 cases hr:zz ((i,c),d)
 ·rw [if_pos hr] at ac
  rw [ac];rw [hr] at aa;replace ac:=hid ac;replace aa:=hid aa;replace aj:=hid aj;replace h0:=hid h0;replace hr:=hid hr;have ao:=hB.alloc (.cells #[.int .i64 i,.int .u32 c,.string (bs d)] 78);replace hB:=hid hB;clear hv hk ab ad
  go_enter func139,ntmps139
  go_wp2_with fail
  refine(aj.out _ ao).mono ?_;rintro e w1⟨rfl,rfl⟩;go_wp2_with fail
  refine(aa.out _).mono ?_;rintro e w2⟨rfl,ak⟩;go_wp2;go_ret
  exact⟨rfl,ow,zp.of_below t ow (pbx),(jY.loc B p t).below h0.out (pbx)⟩
 rw [if_neg (by simp [hr])] at ac
 rw [hr] at aa;replace aa:=hid aa;replace aj:=hid aj;replace hr:=hid hr;replace h0:=hid h0;have ao:=hB.alloc (.cells #[.int .i64 i,.int .u32 c,.string (bs d)] 78)
 cases hw:(zH (i,c) p.waits).isSome
 ·rw [hw] at ab ac
  replace ab:=hid ab;replace hw:=hid hw
  cases hd:(zH (i,c) p.done).isSome
  ·rw [hd] at ad ac
   rw [if_neg (by simp)] at ac;replace ad:=hid ad;replace hd:=hid hd;obtain⟨es,ck,a1,aq⟩:=hv.size;rw [List.length_map] at aq
   by_cases hfull:1000<=p.waits.length
   ·rw [if_pos hfull] at ac
    rw [ac];replace ac:=hid ac
    go_enter func139,ntmps139
    go_wp2_with fail
    refine(aj.out _ ao).mono ?_;rintro e w1⟨rfl,rfl⟩;go_wp2_with fail
    refine(aa.out _).mono ?_;rintro e w2⟨rfl,ak⟩;have ai:=ao.call ak;have ah:Blk w2 w.heap.size #[.int .i64 i,.int .u32 c,.string (bs d)] 78:=Blk.call (bkx) ak;have af:Below w.heap.size w w2:=pbx;clear ak;go_wp2_with fail
    refine zd [O 0,O 1,O 2,O 3,O 4,O 5,O 6,O 7,O 8,O 9,E 10,E 11,O 12] none (λw'=>Blk w' B #[.map (some wb),.map (some db)] 231/\Blk w' w.heap.size #[.int .i64 i,.int .u32 c,.string (bs d)] 78/\(Instr.lookup 228 (.map (some wb)) (.agg #[.int .i64 i,.int .u32 c]) true).run prog w'=.ok (.tuple #[.agg #[.int .i64 la,.int .u32 lb,.string lx],.bool false]) w'/\True) (by kernel_rfl) (by kernel_rfl) ⟨ai.drew,ah.drew,ab.out _ (pbx),trivial⟩ ?_
    refine Wi ?_
    refine zc rfl (λK hK=>?_);go_wp2;refine hK.out _ _ (λ_=>⟨ai.drew.alloc _,ah.drew.alloc _,ab.out _ (pbx),trivial⟩) ?_;clear hK K;refine zc rfl (λK hK=>?_);go_wp2;refine hK.out _ _ (λ_=>⟨ai.drew.alloc _,ah.drew.alloc _,ab.out _ (pbx),trivial⟩) ?_;clear hK K
    refine Wi ?_
    refine zg ?_;obtain⟨W3,ae⟩:∃W3,W3=(w2.alloc (.cells #[.int .i64 la,.int .u32 lb,.string lx] 294)).drew:=⟨_,rfl⟩;have an:Below w.heap.size w W3:=by rw [ae];exact zm (zi af _)
    have aw:Blk W3 B #[.map (some wb),.map (some db)] 231:=by rw [ae];exact(ai.alloc _).drew
    have al:Blk W3 w.heap.size #[.int .i64 i,.int .u32 c,.string (bs d)] 78:=by rw [ae];exact(ah.alloc _).drew
    rw [← ae];clear ae ai ah af;have ar:=al.cell;have au:=al.lt;go_wp2_with fail
    refine(ad.out _ ((jY.loc B p t).below h0.out an)).mono ?_;rintro e w4⟨rfl,am⟩;have ap:=aw.call am;have ay:=al.call am;have a3:=ap.cell;have ag:=ze an am;clear ar au;have az:w4.heap[wb]?=some (.map es ck):=(ag.block wb hv.lt).trans a1;have a7:=λrt=>zih (P:=prog) az aq Tryz.underlying228 rt
    have t1:decide ((1000:Int)<=(p.waits.length:Int))=true:=by simp;omega
    go_wp2;go_ret
    exact⟨rfl,ow,zp.of_below t ow ag,(jY.loc B p t).below h0.out ag⟩
   rw [if_neg hfull] at ac
   rw [ac];replace ac:=hid ac
   go_enter func139,ntmps139
   go_wp2_with fail
   refine(aj.out _ ao).mono ?_;rintro e w1⟨rfl,rfl⟩;go_wp2_with fail
   refine(aa.out _).mono ?_;rintro e w2⟨rfl,ak⟩;have ai:=ao.call ak;have ah:Blk w2 w.heap.size #[.int .i64 i,.int .u32 c,.string (bs d)] 78:=Blk.call (bkx) ak;have af:Below w.heap.size w w2:=pbx;clear ak;go_wp2_with fail
   refine zd [O 0,O 1,O 2,O 3,O 4,O 5,O 6,O 7,O 8,O 9,E 10,E 11,O 12] none (λw'=>Blk w' B #[.map (some wb),.map (some db)] 231/\Blk w' w.heap.size #[.int .i64 i,.int .u32 c,.string (bs d)] 78/\(Instr.lookup 228 (.map (some wb)) (.agg #[.int .i64 i,.int .u32 c]) true).run prog w'=.ok (.tuple #[.agg #[.int .i64 la,.int .u32 lb,.string lx],.bool false]) w'/\True) (by kernel_rfl) (by kernel_rfl) ⟨ai.drew,ah.drew,ab.out _ (pbx),trivial⟩ ?_
   refine Wi ?_
   refine zc rfl (λK hK=>?_);go_wp2;refine hK.out _ _ (λ_=>⟨ai.drew.alloc _,ah.drew.alloc _,ab.out _ (pbx),trivial⟩) ?_;clear hK K;refine zc rfl (λK hK=>?_);go_wp2;refine hK.out _ _ (λ_=>⟨ai.drew.alloc _,ah.drew.alloc _,ab.out _ (pbx),trivial⟩) ?_;clear hK K
   refine Wi ?_
   refine zg ?_;obtain⟨W3,ae⟩:∃W3,W3=(w2.alloc (.cells #[.int .i64 la,.int .u32 lb,.string lx] 294)).drew:=⟨_,rfl⟩;have an:Below w.heap.size w W3:=by rw [ae];exact zm (zi af _)
   have aw:Blk W3 B #[.map (some wb),.map (some db)] 231:=by rw [ae];exact(ai.alloc _).drew
   have al:Blk W3 w.heap.size #[.int .i64 i,.int .u32 c,.string (bs d)] 78:=by rw [ae];exact(ah.alloc _).drew
   rw [← ae];clear ae ai ah af;have ar:=al.cell;have au:=al.lt;go_wp2_with fail
   refine(ad.out _ ((jY.loc B p t).below h0.out an)).mono ?_;rintro e w4⟨rfl,am⟩;have ap:=aw.call am;have ay:=al.call am;have a3:=ap.cell;have ag:=ze an am;clear ar au;have az:w4.heap[wb]?=some (.map es ck):=(ag.block wb hv.lt).trans a1;have a7:=λrt=>zih (P:=prog) az aq Tryz.underlying228 rt
   have t1:decide ((1000:Int)<=(p.waits.length:Int))=false:=by simp;omega
   have a4:zZ w4 wb idV (p.waits.map λq=>(q.1,vO q.2)):=hv.kept (ag.block wb hv.lt);obtain⟨o,hu,hm⟩:=(a4.kept (w':=w4.drew) rfl).update zaN Tryz.underlying228 ((i,c):MId) (vO ((i,c),d));rw [Y5 vO] at hm;unfold vO idV at hu;have ax:B≠wb:=hB.ne_map hv;have a0:w.heap.size≠wb:=by have:=hv.lt;omega
   have a6:=a4.lt;replace hm:=hid hm;go_wp2_with fail
   refine zd [O 0,O 1,O 2,O 3,O 4,O 5,O 6,E 7,E 8] none (λw'=>Blk w' B #[.map (some wb),.map (some db)] 231/\Blk w' w.heap.size #[.int .i64 i,.int .u32 c,.string (bs d)] 78/\True) (by kernel_rfl) (by kernel_rfl) ⟨ap.drew,ay.drew,trivial⟩ ?_
   refine We ?_
   refine zc rfl (λK hK=>?_);go_wp2;refine hK.out _ _ (λ_=>⟨ap.drew,ay.drew,trivial⟩) ?_;clear hK K;refine zc rfl (λK hK=>?_);go_wp2;refine hK.out _ _ (λ_=>⟨ap.drew.putObj ax o,ay.drew.putObj a0 o,trivial⟩) ?_;clear hK K;refine zg ?_;go_wp2;go_ret
   refine⟨rfl,ow,⟨?_,λ_ _=>rfl⟩,a5.add ((i,c),d) (by omega),wb,db,ap.drew.putObj ax o,hm.out,?_,a2,o1,o2,o3⟩
   ·exact((Mod.of_below (λk=>Sub t (ow k)) ag).thenDrew).thenPut (by rw [o2];exact Sub.rfl' t) o
   exact hk.kept ((U1 (Ne.symm a2)).trans (ag.block db hk.lt))
  rw [hd] at ad ac
  rw [if_pos (.inr rfl)] at ac;rw [ac];replace ac:=hid ac;replace ad:=hid ad;replace hd:=hid hd
  go_enter func139,ntmps139
  go_wp2_with fail
  refine(aj.out _ ao).mono ?_;rintro e w1⟨rfl,rfl⟩;go_wp2_with fail
  refine(aa.out _).mono ?_;rintro e w2⟨rfl,ak⟩;have ai:=ao.call ak;have ah:Blk w2 w.heap.size #[.int .i64 i,.int .u32 c,.string (bs d)] 78:=Blk.call (bkx) ak;have af:Below w.heap.size w w2:=pbx;clear ak;go_wp2_with fail
  refine zd [O 0,O 1,O 2,O 3,O 4,O 5,O 6,O 7,O 8,O 9,E 10,E 11,O 12] none (λw'=>Blk w' B #[.map (some wb),.map (some db)] 231/\Blk w' w.heap.size #[.int .i64 i,.int .u32 c,.string (bs d)] 78/\(Instr.lookup 228 (.map (some wb)) (.agg #[.int .i64 i,.int .u32 c]) true).run prog w'=.ok (.tuple #[.agg #[.int .i64 la,.int .u32 lb,.string lx],.bool false]) w'/\True) (by kernel_rfl) (by kernel_rfl) ⟨ai.drew,ah.drew,ab.out _ (pbx),trivial⟩ ?_
  refine Wi ?_
  refine zc rfl (λK hK=>?_);go_wp2;refine hK.out _ _ (λ_=>⟨ai.drew.alloc _,ah.drew.alloc _,ab.out _ (pbx),trivial⟩) ?_;clear hK K;refine zc rfl (λK hK=>?_);go_wp2;refine hK.out _ _ (λ_=>⟨ai.drew.alloc _,ah.drew.alloc _,ab.out _ (pbx),trivial⟩) ?_;clear hK K
  refine Wi ?_
  refine zg ?_;obtain⟨W3,ae⟩:∃W3,W3=(w2.alloc (.cells #[.int .i64 la,.int .u32 lb,.string lx] 294)).drew:=⟨_,rfl⟩;have an:Below w.heap.size w W3:=by rw [ae];exact zm (zi af _)
  have aw:Blk W3 B #[.map (some wb),.map (some db)] 231:=by rw [ae];exact(ai.alloc _).drew
  have al:Blk W3 w.heap.size #[.int .i64 i,.int .u32 c,.string (bs d)] 78:=by rw [ae];exact(ah.alloc _).drew
  rw [← ae];clear ae ai ah af;have ar:=al.cell;have au:=al.lt;go_wp2_with fail
  refine(ad.out _ ((jY.loc B p t).below h0.out an)).mono ?_;rintro e w4⟨rfl,am⟩;have ap:=aw.call am;have ay:=al.call am;have a3:=ap.cell;have ag:=ze an am;clear ar au;go_wp2;go_ret
  exact⟨rfl,ow,zp.of_below t ow ag,(jY.loc B p t).below h0.out ag⟩
 rw [hw] at ab ac
 rw [if_pos (.inl rfl)] at ac;rw [ac];replace ac:=hid ac;replace ab:=hid ab;replace hw:=hid hw;clear ad
 go_enter func139,ntmps139
 go_wp2_with fail
 refine(aj.out _ ao).mono ?_;rintro e w1⟨rfl,rfl⟩;go_wp2_with fail
 refine(aa.out _).mono ?_;rintro e w2⟨rfl,ak⟩;have ai:=ao.call ak;have ah:Blk w2 w.heap.size #[.int .i64 i,.int .u32 c,.string (bs d)] 78:=Blk.call (bkx) ak;have af:Below w.heap.size w w2:=pbx;clear ak;go_wp2_with fail
 refine zd [O 0,O 1,O 2,O 3,O 4,O 5,O 6,O 7,O 8,O 9,E 10,E 11,O 12] none (λw'=>Blk w' B #[.map (some wb),.map (some db)] 231/\Blk w' w.heap.size #[.int .i64 i,.int .u32 c,.string (bs d)] 78/\(Instr.lookup 228 (.map (some wb)) (.agg #[.int .i64 i,.int .u32 c]) true).run prog w'=.ok (.tuple #[.agg #[.int .i64 la,.int .u32 lb,.string lx],.bool true]) w'/\True) (by kernel_rfl) (by kernel_rfl) ⟨ai.drew,ah.drew,ab.out _ (pbx),trivial⟩ ?_
 refine Wi ?_
 refine zc rfl (λK hK=>?_);go_wp2;refine hK.out _ _ (λ_=>⟨ai.drew.alloc _,ah.drew.alloc _,ab.out _ (pbx),trivial⟩) ?_;clear hK K;refine zc rfl (λK hK=>?_);go_wp2;refine hK.out _ _ (λ_=>⟨ai.drew.alloc _,ah.drew.alloc _,ab.out _ (pbx),trivial⟩) ?_;clear hK K
 refine Wi ?_
 refine zg ?_;obtain⟨W3,ae⟩:∃W3,W3=(w2.alloc (.cells #[.int .i64 la,.int .u32 lb,.string lx] 294)).drew:=⟨_,rfl⟩;have an:Below w.heap.size w W3:=by rw [ae];exact zm (zi af _)
 have aw:Blk W3 B #[.map (some wb),.map (some db)] 231:=by rw [ae];exact(ai.alloc _).drew
 have al:Blk W3 w.heap.size #[.int .i64 i,.int .u32 c,.string (bs d)] 78:=by rw [ae];exact(ah.alloc _).drew
 rw [← ae];clear ae ai ah af;have ar:=al.cell;have au:=al.lt;go_wp2;go_ret
 exact⟨rfl,ow,zp.of_below t ow an,(jY.loc B p t).below h0.out an⟩
end
open Go
theorem qB(a b:Nat)(ha:a<4294967296)(hb:b<4294967296):bits .xor .u32 (a:Int) (b:Int)=((a ^^^ b:Nat):Int):=by
 have hx:a ^^^ b<2 ^ 32:=Nat.xor_lt_two_pow (by omega) (by omega)
 have h1:(BitVec.ofInt 32 (a:Int)).toNat=a:=by
  rw [BitVec.ofInt_natCast,BitVec.toNat_ofNat];exact Nat.mod_eq_of_lt (by omega)
 have h2:(BitVec.ofInt 32 (b:Int)).toNat=b:=by
  rw [BitVec.ofInt_natCast,BitVec.toNat_ofNat];exact Nat.mod_eq_of_lt (by omega)
 show IntKind.u32.wrap ((BitVec.ofInt 32 (a:Int)^^^ BitVec.ofInt 32 (b:Int)).toNat:Int)=_
 rw [BitVec.toNat_xor,h1,h2,IntKind.wrap_u32];omega
theorem zec(a b:Nat)(ha:a<4294967296)(hb:b<4294967296):bits .or .u32 (a:Int) (b:Int)=((a|||b:Nat):Int):=by
 have hx:a|||b<2 ^ 32:=Nat.or_lt_two_pow (by omega) (by omega)
 have h1:(BitVec.ofInt 32 (a:Int)).toNat=a:=by
  rw [BitVec.ofInt_natCast,BitVec.toNat_ofNat];exact Nat.mod_eq_of_lt (by omega)
 have h2:(BitVec.ofInt 32 (b:Int)).toNat=b:=by
  rw [BitVec.ofInt_natCast,BitVec.toNat_ofNat];exact Nat.mod_eq_of_lt (by omega)
 show IntKind.u32.wrap ((BitVec.ofInt 32 (a:Int)|||BitVec.ofInt 32 (b:Int)).toNat:Int)=_
 rw [BitVec.toNat_or,h1,h2,IntKind.wrap_u32];omega
theorem zij {s:Nat}(h:s<4294967296):VF s<4294967296:=by
 unfold VF
 split
 ·exact Nat.xor_lt_two_pow (n:=32) (by omega) (by omega)
 omega
theorem Vf:∀(n:Nat){s:Nat},s<4294967296->ZU n s<4294967296
 |0,_,h=>h
 |n+1,_,h=>Vf n (zij h)
theorem VJ:∀(n s:Nat),ZU (n+1) s=VF (ZU n s)
 |0,_=>rfl
 |n+1,s=>VJ n (VF s)
theorem zgp {s:Nat}(h:s<4294967296)(b:UInt8):vI s b<4294967296:=by
 unfold vI;refine Vf 8 (Nat.xor_lt_two_pow (n:=32) (by omega) ?_);have:=b.toNat_lt;omega
theorem Vg:∀(l:List UInt8){s:Nat},s<4294967296->l.foldl vI s<4294967296
 | [],_,h=>h
 |b::l,_,h=>Vg l (zgp h b)
theorem zik {s:Nat}(h:s<4294967296):bits .xor .u32 ((s:Int) / 2) (bits .and .u32 3988292384 (IntKind.u32.wrap (-((s:Int)% 2))))=(VF s:Int):=by
 have hd:((s:Int) / 2)=((s / 2:Nat):Int):=by omega
 rw [hd];unfold VF
 by_cases h1:s % 2=1
 ·rw [if_pos h1]
  have e:(s:Int)% 2=1:=by omega
  have h2:bits .and .u32 3988292384 (IntKind.u32.wrap (-1))=((3988292384:Nat):Int):=by decide
  rw [e,h2,qB _ _ (by omega) (by omega)]
 rw [if_neg h1]
 have e:(s:Int)% 2=0:=by omega
 have h2:bits .and .u32 3988292384 (IntKind.u32.wrap (-0))=((0:Nat):Int):=by decide
 rw [e,h2,qB _ _ (by omega) (by omega),Nat.xor_zero]
theorem zgq {s:Nat}(h:s<4294967296):bits .xor .u32 ((s:Int) / 2) (bits .and .u32 3988292384 (-bits .and .u32 (s:Int) 1 % 4294967296))=(VF s:Int):=by
 have h1:bits .and .u32 (s:Int) 1=(s:Int)% 2:=by
  have:=bits_and_u32_nat s 1 h (by omega);rw [show((1:Nat):Int)=1 from rfl] at this;rw [this,Nat.and_one_is_mod];omega
 rw [h1,← IntKind.wrap_u32];exact zik h
theorem zil(s:Nat)(hs:s<4294967296):bits .xor .u32 IntKind.u32.max (s:Int)=((4294967295 - s:Nat):Int):=by
 have h0:=qB 4294967295 s (by omega) hs;have h1:IntKind.u32.max=((4294967295:Nat):Int):=rfl;rw [h1,h0];have h2:BitVec.allOnes 32 ^^^ BitVec.ofNat 32 s= ~~~(BitVec.ofNat 32 s):=BitVec.allOnes_xor;have h3:=congrArg BitVec.toNat h2;rw [BitVec.toNat_xor,BitVec.toNat_not,BitVec.toNat_allOnes,BitVec.toNat_ofNat,Nat.mod_eq_of_lt (by omega:s<2 ^ 32)] at h3;have h4:(2 ^ 32 - 1:Nat)=4294967295:=by decide
 rw [h4] at h3;rw [h3]
