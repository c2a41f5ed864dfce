/- PARTS OF THE PROOF. -/
import Derived.Test.YtofppfoioodblaaGreatDoorTT46
import Derived.Test.YtofppfoioodblaaGreatDoorTT48
set_option maxRecDepth 8000
set_option maxHeartbeats 4000000
namespace Go.Proofs.YtofppfoioodblaaGreatDoor
section
open Go
theorem J8 {n:zp}(h1:n.store.crashed=false)(h2:n.store.isCut=false)(h3:n.store.cap=262144){d:List UInt8}(hd:d.length<=4096)(hr:n.store.log.length+d.length+9<=262144)(part:Bool):
 yf n part d=({n with store:={n.store with log:=n.store.log++(zG d).1}},0):=by
 have hw:z6 n.store d=({n.store with log:=n.store.log++(zG d).1},0):=by
  unfold z6;rw [if_neg (by rw [h1];simp),if_neg (by rw [JA hd];simp),if_neg (by rw [h3,yt hd];omega),if_pos h2]
 unfold yf;rw [hw];simp
structure Ve(d:List UInt8)(k:Nat)(L:zR)(room j t a:Nat)(m:zp):Prop where
 ide:m.id=(j:Int)
 bad:m.bad=[]
 up:m.down=false
 wanted:m.wanted=0
 kno:∀q:Int,(k:Int)<q->zD q m.pax.known=none
 vot:∀q:Int,(k:Int)<q->zD q m.pax.votes=none
 applied:m.applied=k
 loc:m.loc=L
 crashed:m.store.crashed=false
 isCut:m.store.isCut=false
 cap:m.store.cap=262144
 room:m.store.log.length+room<=262144
 acc:m.acc=jD j d 0 a
 offered:m.offered=a
 pool:J7 j d t a m.pool
 ta:t<=a
variable {d:List UInt8}{k room j t a:Nat}{L:zR}{m:zp}
theorem Ve.next(h:Ve d k L room j t a m):yy m=k+1:=by
 unfold yy;rw [h.applied];unfold ZQ;rw [h.kno _ (by omega)];rfl
def Zn(v:Int):Nat:=if v=1 then 1 else 8
def qi(j:Nat)(d:List UInt8)(t c:Nat):List UInt8:=(jv ⟨1,1,0,jD j d t c⟩).1
theorem Vm(hj:j<16)(hd:d.length<=100){c:Nat}(hc:c<=8)(ht:t+c<=1000000):(jv ⟨1,1,0,jD j d t c⟩).2=0:=
 Jg hd (by rw [yG];exact hc) (qN hj (d:=d) (by omega) ht) (λm hm=>by obtain⟨c, -,rfl⟩:=List.mem_map.1 hm;rfl)
theorem zb6(hj:j<16)(hd:d.length<=100){c:Nat}(hc:c<=8)(ht:t+c<=1000000):(qi j d t c).length<=900:=by
 have h1:=(VN (Vm hj hd hc ht)).2.2.1;have h2:=zcL (VN (Vm hj hd hc ht)).2.1;have h3:=zaA hd (jD j d t c) (λm hm=>by obtain⟨c, -,rfl⟩:=List.mem_map.1 hm;rfl);rw [yG] at h3;unfold qi;rw [h1,h2.2.2];simp only [N1,List.length_cons,List.length_nil,qG];omega
theorem zb7(hj:j<16)(hd:d.length<=100){c:Nat}(hc:c<=8)(ht:t+c<=1000000):jo (qi j d t c)=(⟨1,1,0,jD j d t c⟩,0):=Q1 (Vm hj hd hc ht) (by show 1<_;omega)
theorem Ve.proposal {v:Int}{s:StD}{tk:List Nat}{cnt:Int}{log log2:List zy}(h:Ve d k (ZI v s tk cnt log log2) room j t a m)(hv:known v=true)(hj:j<16)(hd:d.length<=100)(ha:a<=1000000):
 jP m=if a - t=0 then([],false)else(qi j d t (min (Zn v) (a - t)),true):=by
 have hta:=h.ta;unfold jP;rw [if_neg (by rw [h.up];simp),if_neg (by rw [h.loc];simp [ZI]),if_neg (by rw [h.wanted];simp)]
 have hmost:(if(if known (vk m.loc.fold.eras).2.1 then(if(vk m.loc.fold.eras).2.1=1 then(1:Int)else 2)else 0)=1 then 1 else 8)=Zn v:=by
  rw [h.loc]
  show(if(if known v then(if v=1 then(1:Int)else 2)else 0)=1 then 1 else 8)=Zn v
  rw [if_pos hv];unfold Zn
  by_cases h1:v=1
  ·rw [if_pos h1,if_pos h1,if_pos rfl]
  ·rw [if_neg h1,if_neg h1,if_neg (by omega)]
 have hm8:Zn v<=8:=by unfold Zn;split<;>omega
 have hb:Ze m.pool (Zn v)=jD j d t (min (Zn v) (a - t)):=by
  unfold Ze;rw [h.pool.waits,List.map_map];rw [show((λx:MId×zy=>x.2)∘ λm:zy=>(m.1,m))=id from rfl,List.map_id,QD,zf8]
 rw [hmost,hb];have he:(vk m.loc.fold.eras).1=1:=by rw [h.loc];rfl
 have hc8:min (Zn v) (a - t)<=8:=by omega
 have htc:t+min (Zn v) (a - t)<=1000000:=by omega
 rw [XB (d:=d) hd he _ [] _ (by rw [yG];simpa using hc8) (by simpa using qN hj (d:=d) (by omega) htc) (λx hx=>by
  obtain⟨c, -,rfl⟩:=List.mem_map.1 (show x∈jD j d t (min (Zn v) (a - t))by simpa using hx);rfl)]
 have hm1:1<=Zn v:=by unfold Zn;split<;>omega
 by_cases h0:a - t=0
 ·rw [if_pos h0,if_pos (by rw [h0,Nat.min_zero];rfl)]
 ·rw [if_neg h0,if_neg (λe=>by have:=congrArg List.length e;rw [yG] at this;simp only [List.length_nil] at this;omega)]
  rw [List.nil_append];unfold qU qi;rw [Vm hj hd hc8 htc];rfl
theorem zh1 {p:vU}{l:List zy}(h:∀m∈l,zB m=true):ZX p l=l.foldl yM p:=by
 unfold ZX;rw [if_pos (List.all_eq_true.2 h)]
theorem xa(kind:UInt8)(i:Int)(more:List UInt8):(xr kind i more).length=5+more.length:=by
 unfold xr;simp only [N1,List.length_cons,List.length_nil,qG]
theorem Ve.led {v:Int}{s:StD}{tk:List Nat}{cnt:Int}{log log2:List zy}(h:Ve d k (ZI v s tk cnt log log2) (room+2000) j t a m)(hd:d.length<=100)(hk:k<10000){b:Nat}(hb:1<=b)
 {i ti c:Nat} (hi:i<16) (htl:tk.length=16) (hti:tk[i]?=some ti) (htj:tk[j]?=some t) (hc:c<=8) (htc:ti+c<=1000000) (hca:i=j->t+c<=a):
 (m.down=false/\zD ((k+1:Nat):Int) m.pax.known=none/\(zA m ((k+1:Nat):Int) b).2=((b,0,[]),0)/\(zA m ((k+1:Nat):Int) b).1.down=false/\zD ((k+1:Nat):Int) (zA m ((k+1:Nat):Int) b).1.pax.known=none/\
  (yE (zA m ((k+1:Nat):Int) b).1 ((k+1:Nat):Int) b (qi i d ti c)).2=0/\(yE (zA m ((k+1:Nat):Int) b).1 ((k+1:Nat):Int) b (qi i d ti c)).1.down=false)/\
 Ve d (k+1) (ZI v s (tk.set i (ti+c)) (cnt+1) (log++jD i d ti c) (log2++jD i d ti c)) room j (if i=j then ti+c else t) a (zla ((k+1:Nat):Int) b (qi i d ti c) m):=by
 have hinst:zO ((k+1:Nat):Int)=true:=by simp [zO];omega
 have hxl:=zb6 hi hd hc htc;have hdec:=zb7 hi hd hc htc;have hap:=λb=>zf9 (v:=v) (s:=s) hi hd hc htc htl hti cnt log log2 b
 have hrt:=qN hi (d:=d) (by omega) htc;obtain⟨x,hx⟩:∃x,qi i d ti c=x:=⟨_,rfl⟩;rw [hx] at hxl hdec⊢;obtain⟨q,hq⟩:∃q:Int,((k+1:Nat):Int)=q:=⟨_,rfl⟩;have hqk:(k:Int)<q:=by omega
 rw [hq] at hinst⊢;have hroom:=h.room
 have hp:zA m q b=({m with pax:={m.pax with votes:=put q (b,0,[]) m.pax.votes},store:={m.store with log:=m.store.log++(zG (xr 112 q (le8 b))).1}},(b,0,[]),0):=by
  have hva:zM m.pax q=(0,0,[]):=by unfold zM;rw [h.vot q hqk];rfl
  have hpv:yj (0,0,[]) b=((b,0,[]),0):=by
   unfold yj;rw [if_neg (by simp [j7];omega),if_neg (by simp;omega)]
  have hpp:zC m.pax q b=({m.pax with votes:=put q (b,0,[]) m.pax.votes},(b,0,[]),xr 112 q (le8 b),0):=by
   unfold zC;rw [if_neg (by rw [hinst];simp),hva,hpv,if_neg (by simp)]
  unfold zA;rw [if_neg (by rw [h.up];simp),hpp];simp only;rw [if_neg (by simp),J8 (n:={m with pax:={m.pax with votes:=put q (b,0,[]) m.pax.votes}}) h.crashed h.isCut h.cap (by rw [xa,qj];omega) (by rw [xa,qj];show m.store.log.length+_+_<=_;omega) true];simp
 have l1:(zG (xr 112 q (le8 b))).1.length=22:=by rw [yt (by rw [xa,qj];omega),xa,qj]
 obtain⟨m1,hm1⟩:∃m1,m1=({m with pax:={m.pax with votes:=put q (b,0,[]) m.pax.votes},store:={m.store with log:=m.store.log++(zG (xr 112 q (le8 b))).1}} :zp):=⟨_,rfl⟩;rw [← hm1] at hp;have r1:m1.store.log.length=m.store.log.length+22:=by rw [hm1];show(m.store.log++_).length=_;rw [N1,l1]
 have hcst:yE m1 q b x=({m1 with pax:={m1.pax with votes:=put q (b,b,x) m1.pax.votes},store:={m1.store with log:=m1.store.log++(zG (xr 118 q (le8 b++x))).1}},0):=by
  have hva:zM m1.pax q=(b,0,[]):=by
   unfold zM;rw [hm1]
   show(zD q (put q (b,0,[]) m.pax.votes)).getD _=_
   rw [j1];rfl
  have hcv:Yj (b,0,[]) b x=((b,b,x),0):=by
   unfold Yj;rw [if_neg (by simp [j7];omega),if_neg (by simp)]
  have hcp:vy m1.pax q b x=({m1.pax with votes:=put q (b,b,x) m1.pax.votes},xr 118 q (le8 b++x),0):=by
   unfold vy;rw [if_neg (by rw [hinst];simp),hva,hcv,if_neg (by simp)]
  unfold yE;rw [if_neg (by rw [hm1];show¬m.down=true;rw [h.up];simp),hcp];simp only
  rw [if_neg (by simp),J8 (n:={m1 with pax:={m1.pax with votes:=put q (b,b,x) m1.pax.votes}}) (by rw [hm1];exact h.crashed) (by rw [hm1];exact h.isCut) (by rw [hm1];exact h.cap) (by rw [xa,N1,qj];omega)
   (by rw [xa,N1,qj];show m1.store.log.length+_+_<=_;omega) true]
 have l2:(zG (xr 118 q (le8 b++x))).1.length=22+x.length:=by rw [yt (by rw [xa,N1,qj];omega),xa,N1,qj];omega
 obtain⟨m2,hm2⟩:∃m2,m2=({m1 with pax:={m1.pax with votes:=put q (b,b,x) m1.pax.votes},store:={m1.store with log:=m1.store.log++(zG (xr 118 q (le8 b++x))).1}} :zp):=⟨_,rfl⟩;rw [← hm2] at hcst;have r2:m2.store.log.length=m.store.log.length+44+x.length:=by rw [hm2];show(m1.store.log++_).length=_;rw [N1,l2,r1];omega
 have k2:m2.pax.known=m.pax.known:=by rw [hm2,hm1]
 have d2:m2.down=false:=by rw [hm2,hm1];exact h.up
 refine⟨⟨h.up,h.kno q hqk,by rw [hp],by rw [hp,hm1];exact h.up,by rw [hp,hm1];exact h.kno q hqk,by rw [hp];show(yE m1 q b x).2=0;rw [hcst],by rw [hp];show(yE m1 q b x).1.down=false;rw [hcst];exact d2⟩,?_⟩;have hled:zla q b x m=(ja m2 q x).1:=by unfold zla;rw [hp];show(ja (yE m1 q b x).1 q x).1=_;rw [hcst]
 obtain⟨len3,hlp⟩:∃len3,zS m2.pax q x=({m2.pax with known:=put q x m2.pax.known,length:=len3},xr 100 q x,0):=by
  unfold zS;rw [if_neg (by rw [hinst];simp;omega),k2,h.kno q hqk];exact⟨_,rfl⟩
 have hne:xr 100 q x≠ []:=λe=>by have:=congrArg List.length e;rw [xa] at this;simp at this
 have hkeep:=J8 (n:={m2 with pax:={m2.pax with known:=put q x m2.pax.known,length:=len3}}) (by rw [hm2,hm1];exact h.crashed) (by rw [hm2,hm1];exact h.isCut) (by rw [hm2,hm1];exact h.cap) (d:=xr 100 q x) (by rw [xa];omega)
  (by rw [xa];show m2.store.log.length+_+_<=_;omega) true
 have l3:(zG (xr 100 q x)).1.length=14+x.length:=by rw [yt (by rw [xa];omega),xa];omega
 obtain⟨m3,hm3⟩:∃m3,m3=({m2 with pax:={m2.pax with known:=put q x m2.pax.known,length:=len3},store:={m2.store with log:=m2.store.log++(zG (xr 100 q x)).1}} :zp):=⟨_,rfl⟩
 have hlearn:(ja m2 q x).1=(jn 10001 m3).1:=by
  unfold ja;rw [if_neg (by rw [d2];simp)];simp only;rw [hlp];simp only;rw [if_neg (by simp),if_neg hne,hkeep];simp only;rw [if_neg (by simp),← hm3]
 have ap3:m3.applied=k:=by rw [hm3,hm2,hm1];exact h.applied
 have kn3:m3.pax.known=put q x m.pax.known:=by rw [hm3];show put q x m2.pax.known=_;rw [k2]
 have hl3:zD ((m3.applied:Int)+1) m3.pax.known=some x:=by rw [ap3,kn3,show((k:Int)+1)=q by omega];exact j1 _ _ _
 obtain⟨m4,hm4⟩:∃m4,m4=(vJ {m3 with applied:=m3.applied+1} ⟨1,1,0,jD i d ti c⟩).1:=⟨_,rfl⟩
 have hpool:J7 j d (if i=j then ti+c else t) a (ZX (ZX m.pool (jD i d ti c)) []):=by
  rw [zh1 hrt]
  show J7 j d _ a (([]:List zy).foldl yM ((jD i d ti c).foldl yM m.pool))
  rw [List.foldl_nil]
  by_cases hij:i=j
  ·subst hij
   rw [if_pos rfl];rw [hti] at htj
   cases htj
   exact J7.own c _ m.pool h.pool (hca rfl)
  ·rw [if_neg hij]
   exact J7.other hij _ _ h.pool (λy hy=>by obtain⟨e, -,rfl⟩:=List.mem_map.1 hy;rfl)
 have henter:m4={m3 with applied:=k+1,loc:=ZI v s (tk.set i (ti+c)) (cnt+1) (log++jD i d ti c) (log2++jD i d ti c),pool:=ZX (ZX m.pool (jD i d ti c)) [] } :=by
  have hloc3:m3.loc=ZI v s tk cnt log log2:=by rw [hm3,hm2,hm1];exact h.loc
  have hof:∀n:zp,n.acc.length=n.offered->∀f,jG f n=n:=λn hn f=>by
   cases f with
   |zero=>rfl
   |succ f=>
    unfold jG;rw [List.getElem?_eq_none (by omega)]
  rw [hm4];unfold vJ;simp only;rw [hloc3,hap];simp only;rw [hof _ (by show m3.acc.length=m3.offered;rw [hm3,hm2,hm1];show m.acc.length=m.offered;rw [h.acc,h.offered,yG])];have hw3:m3.wanted=0:=by rw [hm3,hm2,hm1];exact h.wanted
  have hp3:m3.pool=m.pool:=by rw [hm3,hm2,hm1]
  rw [ap3,hp3];have:(if vk (ZI v s (tk.set i (ti+c)) (cnt+1) (log++jD i d ti c) (log2++jD i d ti c)).fold.eras=vk (ZI v s tk cnt log log2).fold.eras then m3.wanted else 0)=m3.wanted:=if_pos rfl;rw [this];rfl
 have happ:(jn 10001 m3).1=m4:=by
  have h2:jn 10000 m4=(m4,[]):=by
   unfold jn
   have:zD ((m4.applied:Int)+1) m4.pax.known=none:=by
    rw [henter]
    show zD (((k+1:Nat):Int)+1) m3.pax.known=none
    rw [kn3,yz,if_neg (by omega)];exact h.kno _ (by omega)
   rw [this]
  rw [show(10001:Nat)=10000+1 from rfl];unfold jn;rw [hl3];simp only;rw [hdec];rw [if_neg (by simp)]
  show(jn 10000 (vJ {m3 with applied:=m3.applied+1} ⟨1,1,0,jD i d ti c⟩).1).1=m4
  rw [← hm4,h2]
 rw [hled,hlearn,happ,henter];have r3:m3.store.log.length=m.store.log.length+58+2*x.length:=by rw [hm3];show(m2.store.log++_).length=_;rw [N1,l3,r2];omega
 refine⟨by show m3.id=_;rw [hm3,hm2,hm1];exact h.ide,by show m3.bad=_;rw [hm3,hm2,hm1];exact h.bad,by show m3.down=_;rw [hm3];exact d2,by show m3.wanted=_;rw [hm3,hm2,hm1];exact h.wanted,λp hp=>?_,λp hp=>?_,rfl,rfl,
  by show m3.store.crashed=_;rw [hm3,hm2,hm1];exact h.crashed,by show m3.store.isCut=_;rw [hm3,hm2,hm1];exact h.isCut,by show m3.store.cap=_;rw [hm3,hm2,hm1];exact h.cap,by show m3.store.log.length+room<=_;omega,
  by show m3.acc=_;rw [hm3,hm2,hm1];exact h.acc,by show m3.offered=_;rw [hm3,hm2,hm1];exact h.offered,hpool,?_⟩
 ·show zD p m3.pax.known=none
  rw [kn3,yz,if_neg (by omega)];exact h.kno _ (by omega)
 ·show zD p m3.pax.votes=none
  rw [hm3,hm2,hm1]
  show zD p (put q _ (put q _ m.pax.votes))=none
  rw [yz,if_neg (by omega),yz,if_neg (by omega)];exact h.vot _ (by omega)
 ·split
  ·rename_i hij
   subst hij;rw [hti] at htj
   cases htj
   exact hca rfl
  ·exact h.ta
end
open Go
def XF(f:Nat->Nat):Nat->Nat
 |0=>0
 |n+1=>XF f n+f n
theorem ZE {f g:Nat->Nat} :∀(n:Nat),(∀j,j<n->f j=g j)->XF f n=XF g n
 |0,_=>rfl
 |n+1,h=>by unfold XF;rw [ZE n (λj hj=>h j (by omega)),h n (by omega)]
theorem zaB {f g:Nat->Nat}{i c:Nat}(hi:g i=f i+c)(h:∀j,j≠i->g j=f j):∀(n:Nat),i<n->XF g n=XF f n+c
 |0,h0=>by omega
 |n+1,h0=>by
  unfold XF
  by_cases hn:i=n
  ·subst hn
   rw [ZE (f:=g) (g:=f) i (λj hj=>h j (by omega)),hi];omega
  ·rw [zaB hi h n (by omega),h n (λe=>hn e.symm)];omega
theorem J9 {f:Nat->Nat} :∀(n:Nat),XF f n=0->∀j,j<n->f j=0
 |0,_,j,hj=>by omega
 |n+1,h,j,hj=>by
  unfold XF at h
  by_cases hn:j=n
  ·subst hn;omega
  ·exact J9 n (by omega) j (by omega)
def xf(tk:List Nat)(j:Nat):Nat:=tk[j]?.getD 0
theorem ZF {tk:List Nat}{i:Nat}(hi:i<tk.length)(c j:Nat):xf (tk.set i c) j=if i=j then c else xf tk j:=by
 unfold xf
 by_cases h:i=j
 ·subst h;rw [List.getElem?_set_self hi,if_pos rfl];rfl
 ·rw [List.getElem?_set_ne h,if_neg h]
def Jh(a:Nat->Nat)(d:List UInt8)(log2:List zy)(A:List jW×List JP)(j:Nat):List jW×List JP:=
 match A.1[j]? with
 |some s=>(A.1.set j {s with accepted:=max s.accepted (a j),delivered:=max s.delivered log2.length,stale:=false},A.2++(((jD j d 0 (a j)).drop s.accepted).map (λx=>(1,(j:Int),x))++(log2.drop s.delivered).map (λx=>(3,(j:Int),x))))
 |none=>A
abbrev zh2:=List jW->List JP->List Nat->List zy->Prop
def zdz(d:List UInt8)(a:Nat->Nat)(n:Nat)(P:zh2):Prop:=∀ss tr tk log2 i b c,P ss tr tk log2->ss.length=n->i<n->tk.length=16->xf tk i+c<=a i->
 P ((List.range n).foldl (Jh a d (log2++jD i d (xf tk i) c)) (ss.set i {ss[i]?.getD yV with greatest:=b},tr)).1 ((List.range n).foldl (Jh a d (log2++jD i d (xf tk i) c)) (ss.set i {ss[i]?.getD yV with greatest:=b},tr)).2 (tk.set i (xf tk i+c)) (log2++jD i d (xf tk i) c)
theorem YD {a:Nat->Nat}{d:List UInt8}{log2:List zy}{q:Int}{x:List UInt8} :∀(js:List Nat)(ns:List zp)(ss:List jW)(tr:List JP),js.Nodup->(∀j∈js,∃m,ns[j]?=some m/\(ja m q x).1.acc=jD j d 0 (a j)/\(ja m q x).1.loc.log=log2)->
 (js.foldl (vM q x) (ns,ss,tr)).2=js.foldl (Jh a d log2) (ss,tr)
 | [],_,_,_,_,_=>rfl
 |j::js,ns,ss,tr,hnd,h=>by
  obtain⟨hn1,hn2⟩:=List.nodup_cons.1 hnd;obtain⟨m,hm,h1,h2⟩:=h j (List.mem_cons_self ..);rw [List.foldl_cons,List.foldl_cons]
  have hrest:∀(ns':List zp),(∀k∈js,ns'[k]?=ns[k]?)->∀k∈js,∃m,ns'[k]?=some m/\(ja m q x).1.acc=jD k d 0 (a k)/\(ja m q x).1.loc.log=log2:=λns' hk k hkj=>by
   rw [hk k hkj];exact h k (U7 _ hkj)
  cases hs:ss[j]? with
  |none=>
   have e1:vM q x (ns,ss,tr) j=(ns,ss,tr):=by unfold vM;simp only [hm,hs]
   have e2:Jh a d log2 (ss,tr) j=(ss,tr):=by unfold Jh;simp only [hs]
   rw [e1,e2];exact YD js ns ss tr hn2 (hrest ns (λ_ _=>rfl))
  |some s=>
   have e1:vM q x (ns,ss,tr) j=(ns.set j (ja m q x).1,ss.set j (XY s (ja m q x).1),tr++zax s j (ja m q x).1):=by unfold vM;simp only [hm,hs]
   have e2:Jh a d log2 (ss,tr) j=(ss.set j (XY s (ja m q x).1),tr++zax s j (ja m q x).1):=by
    unfold Jh XY zax;simp only [hs];rw [h1,h2,yG]
   rw [e1,e2];exact YD js _ _ _ hn2 (hrest _ (λk hk=>by rw [List.getElem?_set_ne (λe=>hn1 (by rw [e];exact hk))]))
structure qO(P:zh2)(v:Int)(s:StD)(d:List UInt8)(a:Nat->Nat)(n k G room:Nat)(tk:List Nat)(log2:List zy)(W:zf)(ns:List zp):Prop where
 is:∃ss ld tr,IsW W ns ss ld [] tr/\yR ss/\ss.length=n/\(∀j:Nat,(ss[j]?.getD yV).greatest<=G)/\P ss tr tk log2
 len:ns.length=n
 tks:tk.length=16
 nodes:∃cnt log,∀j m,ns[j]?=some m->Ve d k (ZI v s tk cnt log log2) room j (xf tk j) (a j) m
 most:∀j,a j<=100000
structure zkv(d:List UInt8)(a:Nat->Nat)(n:Nat)(tk:List Nat)(log2:List zy):Prop where
 len:log2.length=XF (xf tk) n
 one:∀i,i<n->(∀j,j<n->j≠i->a j=0)->log2=jD i d 0 (xf tk i)
def zjH(a:Nat->Nat)(tk:List Nat)(n:Nat):Nat:=XF (λj=>a j - xf tk j) n
structure zb8(P:zh2)(v:Int)(s:StD)(d:List UInt8)(a:Nat->Nat)(n p:Nat)(W:zf):Prop where
 ex:∃k G room tk log2 ns,qO P v s d a n k G room tk log2 W ns/\zkv d a n tk log2/\zjH a tk n=p/\k+p<=9000/\G+32*p<=1000000000000/\2000*p<=room
variable {P:zh2}{v:Int}{s:StD}{d:List UInt8}{a:Nat->Nat}{n k G room:Nat}{tk:List Nat}{log2:List zy}{W:zf}{ns:List zp}
theorem qO.notes(h:qO P v s d a n k G room tk log2 W ns):W.notes.length=0:=by
 obtain⟨ss,ld,tr,hW, -⟩:=h.is;exact hW.len
theorem qO.wn(h:qO P v s d a n k G room tk log2 W ns):W.nodes.length=n:=by
 obtain⟨ss,ld,tr,hW, -⟩:=h.is;rw [hW.nodes];exact h.len
theorem qO.node(h:qO P v s d a n k G room tk log2 W ns){i:Nat}(hi:i<n):∃m,ns[i]?=some m/\zr W i=m:=by
 obtain⟨ss,ld,tr,hW, -⟩:=h.is;obtain⟨m,hm⟩:∃m,ns[i]?=some m:=⟨_,N3 (by rw [h.len];exact hi)⟩;exact⟨m,hm,by rw [hW.node,hm];rfl⟩
theorem qO.up(h:qO P v s d a n k G room tk log2 W ns){i:Nat}(hi:i<n):(zr W i).down=false:=by
 obtain⟨m,hm,hn⟩:=h.node hi;obtain⟨cnt,log,hc⟩:=h.nodes;rw [hn];exact(hc i m hm).up
theorem qO.due(h:qO P v s d a n k G room tk log2 W ns)(hv:known v=true)(hn:n<=16)(hd:d.length<=100){i:Nat}(hi:i<n):zec W i=decide (a i - xf tk i≠0):=by
 obtain⟨m,hm,hnm⟩:=h.node hi;obtain⟨cnt,log,hc⟩:=h.nodes;obtain⟨ss,ld,tr,hW, -⟩:=h.is;have hp:=(hc i m hm).proposal hv (by omega) hd (by have:=h.most i;omega)
 have hany:(W.nodes.any λx=>decide (yy (zr W i)<yy x))=false:=by
  rw [List.any_eq_false];intro x hx;rw [hW.nodes] at hx;obtain⟨j,hj⟩:=List.mem_iff_getElem?.1 hx;rw [hnm,(hc i m hm).next,(hc j x hj).next];simp
 unfold zec;rw [hany,Bool.or_false,hnm,hp]
 by_cases h0:a i - xf tk i=0
 ·rw [if_pos h0];simp [h0]
 ·rw [if_neg h0];simp [h0]
theorem XC {G i:Nat}(hG:G<=1000000000000)(hi:i<16):∃b,ju G i=(b,0)/\1<=b/\b<=G+32:=by
 unfold ju;rw [if_neg (by omega)]
 split
 ·exact⟨_,rfl,by omega,by omega⟩
 ·exact⟨_,rfl,by omega,by omega⟩
theorem qO.lead(h:qO P v s d a n k G (room+2000) tk log2 W ns)(hv:known v=true)(hn:n<=16)(hd:d.length<=100)(hG:G<=1000000000000)(hk:k<10000){i:Nat}(hi:i<n)(hdue:a i - xf tk i≠0)(hlog:zkv d a n tk log2)(hP:zdz d a n P):
 ∃c ns',1<=c/\c<=a i - xf tk i/\qO P v s d a n (k+1) (G+32) room (tk.set i (xf tk i+c)) (log2++jD i d (xf tk i) c) (jh (5*n) (doW s W ⟨2,i,0,0,0,[]⟩).1) ns'/\
  zkv d a n (tk.set i (xf tk i+c)) (log2++jD i d (xf tk i) c)/\Seg (5*n) (doW s W ⟨2,i,0,0,0,[]⟩).1:=by
 obtain⟨mi,hmi, -⟩:=h.node hi;obtain⟨cnt,log,hc⟩:=h.nodes;obtain⟨ss,ld,tr,hW,hq,hss,hgr,hPs⟩:=h.is;have hlen:=h.len;have hsl:=hgr i;obtain⟨b,hb,hb1,hb2⟩:=XC (G:=(ss[i]?.getD yV).greatest) (i:=i) (by omega) (by omega);have hci:=hc i mi hmi;have hp:=hci.proposal hv (by omega) hd (by have:=h.most i;omega);rw [if_neg hdue] at hp;have hm1:1<=Zn v/\Zn v<=8:=by unfold Zn;split<;>omega
 obtain⟨c,hcd⟩:∃c,min (Zn v) (a i - xf tk i)=c:=⟨_,rfl⟩;rw [hcd] at hp;have hmst:=h.most i;have htl:=h.tks
 have htki:∀j,j<16->tk[j]?=some (xf tk j):=λj hj=>by
  unfold xf;rw [N3 (by omega)];rfl
 have hled:=λj m (hm:ns[j]?=some m)=>(hc j m hm).led hd hk hb1 (i:=i) (ti:=xf tk i) (c:=c) (by omega) htl (htki i (by omega)) (htki j (by have:=(N6.1 hm).1;omega)) (by omega) (by omega) (λe=>by subst e;omega)
 have hxl:=zb6 (j:=i) (d:=d) (t:=xf tk i) (c:=c) (by omega) hd (by omega) (by omega)
 obtain⟨ld',ss',tr',g0,g1,g2,g3,g4,g5⟩:=zju s hW hq (by rw [hss,hlen]) (i:=i) (b:=b) (q:=k+1) (x:=qi i d (xf tk i) c) (mi:=mi) (by omega) hmi hb (by omega) hci.next (by omega) (by rw [hp]) (by omega) (λm hm=>by
  obtain⟨j,hj⟩:=List.mem_iff_getElem?.1 hm
  exact(hled j m hj).1)
 rw [hlen] at g1 g3 g5;refine⟨c,_,by omega,by omega,⟨⟨ss',ld',tr',g1,g2,g3,λj=>?_,?_⟩,by simpa using hlen,by simpa using htl,⟨cnt+1,log++jD i d (xf tk i) c,λj m' hm'=>?_⟩,h.most⟩,⟨?_,λi0 hi0 h0=>?_⟩,g5⟩
 ·rw [g4 j]
  by_cases hj:i=j
  ·subst hj
   rw [List.getElem?_set_self (by omega)]
   show b<=_
   omega
  ·rw [List.getElem?_set_ne hj]
   have:=hgr j;omega
 ·have ht:=YD (a:=a) (d:=d) (log2:=log2++jD i d (xf tk i) c) (q:=((k+1:Nat):Int)) (x:=qi i d (xf tk i) c) (List.range n) (ns.map λm=>(yE (zA m ((k+1:Nat):Int) b).1 ((k+1:Nat):Int) b (qi i d (xf tk i) c)).1) (ss.set i {ss[i]?.getD yV with greatest:=b}) tr List.nodup_range (λj hj=>by
   obtain⟨m,hm⟩:∃m,ns[j]?=some m:=⟨_,N3 (by rw [hlen];exact List.mem_range.1 hj)⟩;have hx:=(hled j m hm).2
   exact⟨_,by rw [List.getElem?_map,hm];rfl,hx.acc,by rw [show(ja (yE (zA m ((k+1:Nat):Int) b).1 ((k+1:Nat):Int) b (qi i d (xf tk i) c)).1 ((k+1:Nat):Int) (qi i d (xf tk i) c)).1.loc=_ from hx.loc];rfl⟩)
  unfold zhZ at g0;rw [List.length_map,hlen] at g0;rw [show((k+1:Nat):Int)=((k+1:Nat):Int)from rfl] at ht;have e1:=congrArg Prod.fst (g0.trans ht);have e2:=congrArg Prod.snd (g0.trans ht);simp only at e1 e2;rw [e1,e2];exact hP ss tr tk log2 i b c hPs hss hi htl (by omega)
 ·rw [List.getElem?_map] at hm'
  obtain⟨m,hm,rfl⟩:=Option.map_eq_some_iff.1 hm';have:=(hled j m hm).2
  rwa [ZF (by omega)]
 ·rw [N1,yG,hlog.len]
  exact(zaB (f:=xf tk) (g:=xf (tk.set i (xf tk i+c))) (i:=i) (c:=c) (by rw [ZF (by omega),if_pos rfl]) (λj hj=>by rw [ZF (by omega),if_neg (λe=>hj e.symm)]) n hi).symm
 ·have hii:i0=i:=by
   by_cases e:i0=i
   ·exact e
   ·have:=h0 i hi (λe'=>e e'.symm)
    omega
  subst hii;rw [hlog.one i0 hi0 h0,ZF (by omega),if_pos rfl];have:=J6 i0 d 0 (xf tk i0) c;rw [Nat.zero_add] at this;exact this.symm
theorem v8.pre {f:Nat}{p q:Zl}{S S':zf}(h:Y2 S p q)(hr:v8 s f q S S'):v8 s f p S S':=by
 have tr:∀ {r},Y2 S q r->Y2 S p r:=λ{r} h2=>by
  induction h with
  |refl=>exact h2
  |step h1 _ ih=>exact .step h1 (ih hr h2)
 cases hr with
 |done h1 h2=>exact .done (tr h1) h2
 |step h1 h2 h3=>exact .step (tr h1) h2 h3
theorem QF {i f:Nat}{S':zf} :∀(c:Nat)(W:zf),Seg c W->(jh c W).notes.length=0->v8 s f (1,i+1) (jh c W) S'->v8 s (f+c) (2,i) W S'
 |0,W,_,h0,hr=>v8.pre (.step (by unfold jx;rw [if_neg (by simp),if_neg (by simp),if_pos (show W.notes.length=0 from h0)]) (.refl _)) hr
 |c+1,W,hs,h0,hr=>by
  have ih:=QF c (y7 W) hs.2 h0 hr;refine v8.step (.refl _) ⟨by unfold jx;rw [if_neg (by simp),if_neg (by simp),if_neg hs.1],λe=>by cases e.1⟩ ?_;rw [show(doW s W (Y1 (2,i))).1=y7 W from zku s W];exact ih
theorem zh3(h:∀i,i<W.nodes.length->(zr W i).down=false):∀(r i:Nat),i+r=W.nodes.length->Y2 W (0,i) (1,0)
 |0,i,hi=>.step (by unfold jx;rw [if_pos rfl,if_neg (by simp only;omega)]) (.refl _)
 |r+1,i,hi=>.step (q:=(0,i+1)) (by unfold jx;rw [if_pos rfl,if_pos (by simp only;omega),if_neg (by simp only;rw [h i (by omega)];simp)]) (zh3 h r (i+1) (by omega))
theorem zaC(hP:zdz d a n P)(hv:known v=true)(hn:n<=16)(hd:d.length<=100):∀(r i p:Nat)(W:zf),i+r=n->zb8 P v s d a n p W->
 ∃f W' p',v8 s f (1,i) W W'/\zb8 P v s d a n p' W'/\p'<=p/\f<=r*(5*n+1)/\((∃j,i<=j/\j<n/\zec W j=true)->p'<p)
 |0,i,p,W,hi,h=>by
  obtain⟨k,G,room,tk,log2,ns,hC, -⟩:=h.ex;exact⟨0,W,p,.done (.refl _) ⟨rfl,by rw [hC.wn];simp only;omega⟩,h,N0 _,by omega,λ⟨j,h1,h2,_⟩=>by omega⟩
 |r+1,i,p,W,hi,h=>by
  have h0:=h;obtain⟨k,G,room,tk,log2,ns,hC,hL,hp,hk,hG,hroom⟩:=h.ex;have hin:i<n:=by omega
  have hdu:=hC.due hv hn hd hin
  by_cases hz:a i - xf tk i=0
  ·have hdf:zec W i=false:=by rw [hdu];simp [hz]
   obtain⟨f,W',p',g1,g2,g3,g4,g5⟩:=zaC hP hv hn hd r (i+1) p W (by omega) h0
   refine⟨f,W',p',v8.pre (.step (q:=(2,i)) (by unfold jx;rw [if_neg (by simp),if_pos rfl,if_pos (by simp only;rw [hC.wn];omega),if_neg (by simp only;rw [hdf];simp)])
    (.step (q:=(1,i+1)) (by unfold jx;rw [if_neg (by simp),if_neg (by simp),if_pos hC.notes]) (.refl _))) g1,g2,g3,by rw [show(r+1)*(5*n+1)=r*(5*n+1)+(5*n+1)from Nat.succ_mul _ _];omega,λ⟨j,h1,h2,h3⟩=>g5 ⟨j,?_,h2,h3⟩⟩
   rcases Nat.eq_or_lt_of_le h1 with e|e
   ·subst e;rw [hdf] at h3;cases h3
   ·exact e
  ·have hdt:zec W i=true:=by rw [hdu];simp [hz]
   have hpp:1<=p:=by
    rcases Nat.eq_zero_or_pos p with e|e
    ·rw [e] at hp
     exact absurd (J9 n hp i hin) hz
    ·exact e
   obtain⟨room',rfl⟩:∃r',room=r'+2000:=⟨room - 2000,by omega⟩;obtain⟨c,ns',c1,c2,hC',hL',hSeg⟩:=hC.lead hv hn hd (by omega) (by omega) hin hz hL hP
   have hpe:zjH a (tk.set i (xf tk i+c)) n+c=p:=by
    rw [← hp];unfold zjH;exact(zaB (f:=λj=>a j - xf (tk.set i (xf tk i+c)) j) (g:=λj=>a j - xf tk j) (i:=i) (c:=c) (by rw [ZF (by have:=hC.tks;omega),if_pos rfl];omega) (λj hj=>by rw [ZF (by have:=hC.tks;omega),if_neg (λe=>hj e.symm)]) n hin).symm
   have hP':zb8 P v s d a n (zjH a (tk.set i (xf tk i+c)) n) (jh (5*n) (doW s W ⟨2,i,0,0,0,[]⟩).1):=⟨⟨_,_,_,_,_,_,hC',hL',rfl,by omega,by omega,by omega⟩⟩;obtain⟨f,W',p',g1,g2,g3,g4, -⟩:=zaC hP hv hn hd r (i+1) _ _ (by omega) hP';refine⟨f+5*n+1,W',p',?_,g2,by omega,by rw [show(r+1)*(5*n+1)=r*(5*n+1)+(5*n+1)from Nat.succ_mul _ _];omega,λ_=>by omega⟩;refine v8.step (.refl _) ⟨by unfold jx;rw [if_neg (by simp),if_pos rfl,if_pos (by simp only;rw [hC.wn];omega),if_pos hdt],λe=>by have:=e.2;rw [hC.wn] at this;simp only at this;omega⟩ ?_;exact QF (i:=i) (5*n) _ hSeg hC'.notes g1
theorem zga(hv:known v=true)(hn:n<=16)(hd:d.length<=100)(hC:qO P v s d a n k G room tk log2 W ns):qs W=decide (zjH a tk n=0):=by
 unfold qs
 have h1:W.notes.isEmpty=true:=by have:=hC.notes;cases hN:W.notes with
  |nil=>rfl
  |cons x l=>rw [hN] at this;simp at this
 rw [h1,Bool.true_and]
 by_cases hz:zjH a tk n=0
 ·rw [decide_eq_true hz,List.all_eq_true]
  intro i hi;rw [hC.wn] at hi;have hi':=List.mem_range.1 hi;rw [hC.up hi',hC.due hv hn hd hi',J9 n hz i hi'];simp
 ·rw [decide_eq_false hz,List.all_eq_false]
  have:∃i,i<n/\a i - xf tk i≠0:=by
   refine Classical.byContradiction λhne=>hz ?_
   have:∀m,m<=n->XF (λj=>a j - xf tk j) m=0:=by
    intro m
    induction m with
    |zero=>intro _;rfl
    |succ m ih=>
     intro hm;unfold XF;rw [ih (by omega)];have:a m - xf tk m=0:=Classical.byContradiction λh=>hne ⟨m,by omega,h⟩
     omega
   exact this n (N0 _)
  obtain⟨i,hi,hne⟩:=this;refine⟨i,by rw [hC.wn];exact List.mem_range.2 hi,?_⟩;rw [hC.up hi,hC.due hv hn hd hi];simp [hne]
theorem zb9(hP:zdz d a n P)(hv:known v=true)(hn:n<=16)(hd:d.length<=100):∀(r p:Nat)(W:zf),zb8 P v s d a n p W->p<r->∃g W',YB s r g W W' true/\zb8 P v s d a n 0 W'/\g<=p*1296
 |0,p,W,_,hr=>by omega
 |r+1,p,W,h,hr=>by
  obtain⟨k,G,room,tk,log2,ns,hC,hL,hp,hk,hG,hroom⟩:=h.ex;have hrs:=zga hv hn hd hC;rw [hp] at hrs
  by_cases hz:p=0
  ·subst hz
   exact⟨0,W,.rests (by rw [hrs];rfl),h,Nat.zero_le _⟩
  ·have hrf:qs W=false:=by rw [hrs];simp [hz]
   obtain⟨f,W1,p1,g1,g2,g3,g4,g5⟩:=zaC hP hv hn hd n 0 p W (by omega) h
   have hdue:∃j,0<=j/\j<n/\zec W j=true:=by
    refine Classical.byContradiction λhne=>?_
    have hall:∀j,j<n->a j - xf tk j=0:=λj hj=>Classical.byContradiction λh=>hne ⟨j,Nat.zero_le _,hj,by rw [hC.due hv hn hd hj];simp [h]⟩
    have:∀m,m<=n->XF (λj=>a j - xf tk j) m=0:=by
     intro m
     induction m with
     |zero=>intro _;rfl
     |succ m ih=>intro hm;unfold XF;rw [ih (by omega),hall m (by omega)]
    exact hz (by rw [← hp];exact this n (N0 _))
   have hlt:=g5 hdue;obtain⟨g,W',k1,k2,k3⟩:=zb9 hP hv hn hd r p1 W1 g2 (by omega);have hsil:Y2 W (0,0) (1,0):=zh3 (λi hi=>hC.up (by rw [← hC.wn];exact hi)) W.nodes.length 0 (by omega);refine⟨f+g,W',.round hrf (v8.pre hsil g1) k1,k2,?_⟩
   have h1:f<=1296:=Nat.le_trans g4 (by
    have:n*(5*n+1)<=16*81:=Nat.mul_le_mul hn (by omega)
    omega)
   have h2:p1*1296+1296<=p*1296:=by
    have:(p1+1)*1296<=p*1296:=Nat.mul_le_mul_right _ hlt;omega
   omega
