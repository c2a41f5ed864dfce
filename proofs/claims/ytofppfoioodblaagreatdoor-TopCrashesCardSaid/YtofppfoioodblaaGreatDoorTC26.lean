/- PARTS OF THE PROOF. -/
import Derived.Test.YtofppfoioodblaaGreatDoorTC25
set_option maxRecDepth 8000
set_option maxHeartbeats 4000000
open Go.Proofs.Tryz
namespace Go.Proofs.YtofppfoioodblaaGreatDoor
section
open Go
variable {W:zf}{ns:List zr}{ss:List jN}{ld:List (Int×j8)}{tr:List xV}{i:Nat}{m:zr}{si:jN}{s:StD}
theorem IsW.stale(hV:IsW W ns ss ld [] tr)(hs:ss[i]?=some si):IsW (xn W i) ns (ss.set i {si with stale:=true}) ld [] tr:=by
 refine⟨hV.nodes,?_,hV.leads,hV.notes,hV.hurt,hV.trace⟩
 show W.seats.set i {jo W i with stale:=true} =_
 rw [hV.seat,hs,hV.seats];rfl
theorem IsW.dropLead(hV:IsW W ns ss ld [] tr)(o:Int):IsW {W with leads:=del o W.leads} ns ss (del o ld) [] tr:=⟨hV.nodes,hV.seats,by show del o W.leads=_;rw [hV.leads],hV.notes,hV.hurt,hV.trace⟩
theorem IsW.toldOne(hV:IsW W ns ss ld [] tr)(hq:yp ss)(hs:ss[i]?=some si)(hm:i<ns.length)(m':zr):IsW (vq (Go.Proofs.YtofppfoioodblaaGreatDoor.setNode (xn W i) i m')) (ns.set i m') (ss.set i (JL si m')) ld [] (tr++Zi si i m'):=by
 have ac:=(N6.1 hs).1;have h1:=(hV.stale hs).setNode i m';have aa:xE (ss.set i {si with stale:=true}) i:=λk hk=>by rw [List.getElem?_set_ne (Ne.symm hk)];exact hq k
 have hT:=Q2 h1 aa (by simpa using hm) (List.getElem?_set_self ac) rfl (List.getElem?_set_self hm);rw [List.set_set] at hT;exact hT
theorem zmh(hV:IsW W ns ss ld [] tr)(hq:yp ss)(hm:ns[i]?=some m)(c:Int):IsW (doW s W ⟨8,i,c,0,0,[]⟩).1 (ns.set i (J4 m c).1) ss ld [] tr:=by
 have hi:=(N6.1 hm).1;have aa:zo W i=m:=by rw [hV.node,hm];rfl
 have h1:=hV.setNode i (J4 m c).1
 have hd:(doW s W ⟨8,i,c,0,0,[]⟩).1=vq (setNode W i (J4 m c).1):=by
  unfold doW;rw [if_neg (by simp),if_neg (by rw [hV.nodes];simp;omega)];simp only;rw [if_neg (by simp)]
  show vq (yg W s ⟨8,i,c,0,0,[]⟩).1=_
  congr 1
  unfold yg;simp only
  repeat rw [if_neg (by omega)]
  rw [if_pos trivial,Int.toNat_natCast,aa]
 rw [hd,x8 (by rw [h1.seats];exact hq)];exact h1
theorem zfo(hV:IsW W ns ss ld [] tr)(hq:yp ss)(hm:ns[i]?=some m):IsW (doW s W ⟨7,i,0,0,0,[]⟩).1 (ns.set i (vU m).1) ss (del (i:Int) ld) [] tr:=by
 have hi:=(N6.1 hm).1;have aa:zo W i=m:=by rw [hV.node,hm];rfl
 have h1:=(hV.dropLead (i:Int)).setNode i (vU m).1
 have hd:(doW s W ⟨7,i,0,0,0,[]⟩).1=vq (setNode {W with leads:=del (i:Int) W.leads} i (vU m).1):=by
  unfold doW;rw [if_neg (by simp),if_neg (by rw [hV.nodes];simp;omega)];simp only;rw [if_neg (by simp)]
  show vq (yg W s ⟨7,i,0,0,0,[]⟩).1=_
  congr 1
  unfold yg;simp only
  repeat rw [if_neg (by omega)]
  rw [if_pos trivial,Int.toNat_natCast,aa]
 rw [hd,x8 (by rw [h1.seats];exact hq)];exact h1
theorem zgR(hV:IsW W ns ss ld [] tr)(hq:yp ss)(hm:ns[i]?=some m)(hs:ss[i]?=some si):IsW (doW s W ⟨9,i,0,0,0,[]⟩).1 (ns.set i (jt m s)) (ss.set i (JL si (jt m s))) (del (i:Int) ld) [] (tr++Zi si i (jt m s)):=by
 have hi:=(N6.1 hm).1;have aa:zo W i=m:=by rw [hV.node,hm];rfl
 have h1:=(hV.dropLead (i:Int)).toldOne hq hs hi (jt m s)
 have hd:(doW s W ⟨9,i,0,0,0,[]⟩).1=vq (setNode (xn {W with leads:=del (i:Int) W.leads} i) i (jt m s)):=by
  unfold doW;rw [if_neg (by simp),if_neg (by rw [hV.nodes];simp;omega)];simp only;rw [if_neg (by simp)]
  show vq (yg W s ⟨9,i,0,0,0,[]⟩).1=_
  congr 1
  unfold yg;simp only
  repeat rw [if_neg (by omega)]
  rw [if_pos trivial,Int.toNat_natCast,aa];rfl
 rw [hd];exact h1
theorem zfp(hV:IsW W ns ss ld [] tr)(hq:yp ss)(hm:ns[i]?=some m)(hs:ss[i]?=some si)(d:List UInt8):IsW (doW s W ⟨1,i,0,0,0,d⟩).1 (ns.set i (zv m d).1) (ss.set i (JL si (zv m d).1)) ld []
 (tr++Zi si i (zv m d).1++(if(zv m d).2.2=0 then [] else [(2,(i:Int),((0,0),[]))])):=by
 have hi:=(N6.1 hm).1;have aa:zo W i=m:=by rw [hV.node,hm];rfl
 have h1:=hV.toldOne hq hs hi (zv m d).1
 have ac:yg W s ⟨1,i,0,0,0,d⟩=(setNode (xn W i) i (zv m d).1,(zv m d).2.2):=by
  unfold yg;simp only;rw [if_pos trivial,Int.toNat_natCast,aa]
 unfold doW;rw [if_neg (by simp),if_neg (by rw [hV.nodes];simp;omega)];simp only;rw [ac]
 by_cases he:(zv m d).2.2=0
 ·rw [if_neg (by simp [he]),if_pos he,List.append_nil]
  exact h1
 rw [if_pos ⟨trivial,he⟩,if_neg he]
 refine⟨h1.nodes,h1.seats,h1.leads,h1.notes,h1.hurt,?_⟩
 show(vq _).trace++_=_
 rw [h1.trace]
theorem ziW {d:List UInt8}{k room j t a:Nat}{L:zP}{m:zr}(h:qS d k L (room+200) j t a m)(hj:j<16)(hd:d.length<=100)(ha:a<1000){v:Int}(hk:za9 v d j a m)(c:Nat):
 (zv (J4 m c).1 d).2.2≠0/\(zv (J4 m c).1 d).1.down=true/\(zv (J4 m c).1 d).1.acc=jq j d 0 a/\(zv (J4 m c).1 d).1.loc=L/\∃a',(a'=a∨a'=a+1)/\za9 v d j a' (zv (J4 m c).1 d).1:=by
 have ah:(J4 m c).1={m with store:={m.store with isCut:=true,keep:=(c:Int)}} :=by
  unfold J4 zdf;rw [if_neg (by rw [h.up];simp),if_neg (by rw [h.crashed];simp),if_neg (by omega)]
 obtain⟨m1,aa⟩:∃m1,m1=({m with store:={m.store with isCut:=true,keep:=(c:Int)}} :zr):=⟨_,rfl⟩;rw [ah,← aa];have hr:zx (((j:Int),a+1),d)=true:=by simp only [zx,Bool.and_eq_true,decide_eq_true_eq];omega
 have ak:m1.acc.length=a:=by rw [aa];show m.acc.length=a;rw [h.acc,je]
 have ar:=Je hj hd (a:=a) (by omega)
 have ao:zbQ m1.store (JX j d a):=by
  rw [aa];obtain⟨h1,tl,h2,h3,h4⟩:=hk.kept;exact⟨h1,tl,h2,h3,h4⟩
 obtain⟨r,ai⟩:∃r:List UInt8,[109] ++(j0 [(((j:Int),a+1),d)]).1=r:=⟨_,rfl⟩;rw [ai] at ar;have am:m1.store.crashed=false:=by rw [aa];exact h.crashed
 have al:m1.store.isCut=true:=by rw [aa]
 have ad:m1.store.cap=262144:=by rw [aa];exact h.cap
 have an:=h.room;have aq:m1.store.log.length=m.store.log.length:=by rw [aa]
 have aj:(zT m1.store r).2=31:=by
  unfold zT;rw [if_neg (by rw [am];simp),if_neg (by rw [qj (by omega)];simp),if_neg (by rw [ad,jS (by omega)];omega),if_neg (by rw [al];simp)]
 have af:j7 m1 false r=({m1 with store:=(zT m1.store r).1,down:=true},31):=by
  unfold j7;rw [aj];simp
 have hb:zv m1 d=({m1 with store:=(zT m1.store r).1,down:=true},((0,0),[]),31):=by
  unfold zv;have ae:m1.id=(j:Int):=by rw [aa];exact h.ide
  have ap:zx ((m1.id,m1.acc.length+1),d)=true:=by rw [ae,ak];exact hr
  have ag: [109] ++(j0 [((m1.id,m1.acc.length+1),d)]).1=r:=by rw [ae,ak];exact ai
  rw [if_neg (by rw [aa];show¬m.down=true;rw [h.up];simp),if_neg (by rw [ap];simp),ag,af,if_pos (by simp)]
 rw [hb];refine⟨by simp,rfl,by rw [aa];exact h.acc,by rw [aa];exact h.loc,?_⟩
 have ac:(zT m1.store r).1.cap=262144:=by
  unfold zT;rw [if_neg (by rw [am];simp),if_neg (by rw [qj (by omega)];simp),if_neg (by rw [ad,jS (by omega)];omega),if_neg (by rw [al];simp)];exact ad
 rcases Z5 ao r with⟨e, -⟩|⟨-, -,hk1|hk1⟩|⟨e, -⟩
 ·rw [aj] at e;cases e
 ·exact⟨a,.inl rfl,by rw [aa];exact hk.ide,by rw [aa];exact hk.ver,by rw [aa];exact hk.bad,ac,hk1⟩
 ·refine⟨a+1,.inr rfl,by rw [aa];exact hk.ide,by rw [aa];exact hk.ver,by rw [aa];exact hk.bad,ac,?_⟩
  rw [ZW,ai];exact hk1
 rw [aj] at e;cases e
theorem zgS {d:List UInt8}{k room j t a:Nat}{L:zP}{m:zr}(h:qS d k L (room+200) j t a m)(hj:j<16)(hd:d.length<=100)(ha:a<1000){v:Int}(hk:za9 v d j a m):za9 v d j (a+1) (zv m d).1:=by
 have hr:zx (((j:Int),a+1),d)=true:=by simp only [zx,Bool.and_eq_true,decide_eq_true_eq];omega
 have af:m.acc.length=a:=by rw [h.acc,je]
 have ag:=Je hj hd (a:=a) (by omega);obtain⟨r,ac⟩:∃r:List UInt8,[109] ++(j0 [(((j:Int),a+1),d)]).1=r:=⟨_,rfl⟩;rw [ac] at ag;have ae:=h.room;have aa:=ZO (n:=m) h.crashed h.isCut h.cap (d:=r) (by omega) (by omega) false
 have ad:(zT m.store r).1={m.store with log:=m.store.log++(zH r).1} /\(zT m.store r).2=0:=by
  unfold zT;rw [if_neg (by rw [h.crashed];simp),if_neg (by rw [qj (by omega)];simp),if_neg (by rw [h.cap,jS (by omega)];omega),if_pos h.isCut];exact⟨rfl,rfl⟩
 have hb:(zv m d).1=jE (m.acc.length+1) {(j7 m false r).1 with acc:=m.acc++ [((m.id,m.acc.length+1),d)] } :=by
  unfold zv;rw [h.ide,af,if_neg (by rw [h.up];simp),if_neg (by rw [hr];simp),ac,aa,if_neg (by simp)]
 have hs:=(vm (m.acc.length+1) {(j7 m false r).1 with acc:=m.acc++ [((m.id,m.acc.length+1),d)] }).1;rw [hb];refine⟨by rw [hs.id,aa];exact hk.ide,by rw [hs.version,aa];exact hk.ver,by rw [hs.bad,aa];exact hk.bad,by rw [hs.store,aa];exact hk.cap,?_⟩;rw [hs.store,aa]
 show zbQ {m.store with log:=m.store.log++(zH r).1} _
 rw [ZW,ac,← ad.1]
 rcases Z5 hk.kept r with⟨-, -, -,h4⟩|⟨e, -⟩|⟨e, -⟩
 ·exact h4
 ·rw [ad.2] at e;cases e
 rw [ad.2] at e;cases e
theorem qS.less {d:List UInt8}{k room room' j t a:Nat}{L:zP}{m:zr}(h:qS d k L room j t a m)(hr:room'<=room):qS d k L room' j t a m:=
 ⟨h.ide,h.bad,h.up,h.wanted,h.kno,h.vot,h.applied,h.loc,h.crashed,h.isCut,h.cap,by have:=h.room;omega,h.acc,h.offered,h.pool,h.ta⟩
structure Zu(v:Int)(s:StD)(d:List UInt8)(n:Nat)(a:Nat->Nat)(W:zf)(ns:List zr):Prop where
 is:∃ss ld tr,IsW W ns ss ld [] tr/\yp ss/\(∀j:Nat,(ss[j]?.getD yA).greatest=0)/\zcK n d a ss tr (List.replicate 16 0) []
 len:ns.length=n
 nodes:∀j m,ns[j]?=some m->qS d 0 (zeT v s) 250000 j 0 (a j) m/\za9 v d j (a j) m
def xY(s:StD)(d:List UInt8)(W:zf)(i:Nat)(cut:Option Nat):zf:=
 let W1:=match cut with|none=>W|some c=>(doW s W ⟨8,i,c,0,0,[]⟩).1
 (doW s (doW s (doW s W1 ⟨1,i,0,0,0,d⟩).1 ⟨7,i,0,0,0,[]⟩).1 ⟨9,i,0,0,0,[]⟩).1
theorem zkB {a:Nat->Nat}{i x:Nat}(h:x=a i∨x=a i+1):∃a',(a'=a∨a'=upd a i)/\a' i=x/\∀j,j≠i->a' j=a j:=by
 rcases h with h|h
 ·exact⟨a,.inl rfl,h.symm,λ_ _=>rfl⟩
 exact⟨upd a i,.inr rfl,by unfold upd;rw [if_pos rfl,h],λj hj=>by unfold upd;rw [if_neg (λe=>hj e.symm)]⟩
theorem Zu.round {v:Int}{d:List UInt8}{n:Nat}{a:Nat->Nat}(h:Zu v s d n a W ns)(hn:n<=16)(hd:d.length<=100)(hi:i<n)(ha:∀j,a j<100)(cut:Option Nat):
 ∃a' ns',(a'=a∨a'=upd a i)/\Zu v s d n a' (xY s d W i cut) ns':=by
 obtain⟨ss,ld,tr,hW,hq,ao,a1,ar,M,hM,ay⟩:=h.is;have a0:=h.len;obtain⟨m,hm⟩:∃m,ns[i]?=some m:=⟨_,N3 (by omega)⟩;obtain⟨si,ag⟩:∃si,ss[i]?=some si:=⟨_,N3 (by omega)⟩;obtain⟨hc,hk⟩:=h.nodes i m hm;obtain⟨ap,aq⟩:=ar i si ag;have a7:=ha i;have ad:i<ns.length:=by omega
 have ac:i<ss.length:=by omega
 have fin:∀(m3:zr)(x:Nat)(ss3:List jN)(ld3:List (Int×j8)) (tr3:List xV) (W3:zf) (s3:jN) (b:Nat->Nat) (M3:Jf),IsW W3 (ns.set i m3) ss3 ld3 [] tr3->yp ss3->ss3[i]?=some s3->ss3.length=n->(∀j:Nat,(ss3[j]?.getD yA).greatest=0)->
  (∀(j:Nat)(s:jN),ss3[j]?=some s->s.accepted=b j/\s.delivered=0)->Qs (some (QF n)) tr3=some M3->xX n d b (List.replicate 16 0) [] (λ_=>0) M3->(∀j,j≠i->b j=a j)->(b i=a i∨b i=a i+1)->(x=b i∨x=b i+1)->(x=a i∨x=a i+1)->za9 v d i x m3->
  ∃a' ns',(a'=a∨a'=upd a i)/\Zu v s d n a' (doW s W3 ⟨9,i,0,0,0,[]⟩).1 ns':=by
  intro m3 x ss3 ld3 tr3 W3 s3 b M3 hW3 hq3 hs3 hl3 hg3 hse3 hM3 hok3 hbj hbi hxb hxa ah;obtain⟨az,a5⟩:=ah.recover (s:=s) (by omega) hd (by omega);have hR:=zgR (s:=s) hW3 hq3 (List.getElem?_set_self ad) hs3;rw [List.set_set] at hR;obtain⟨a',a4,an,am⟩:=zkB hxa;obtain⟨aj,ax⟩:=hse3 i s3 hs3;have af:=az.acc;have ae:(jt m3 s).loc.log=[]:=by rw [az.loc];rfl
  have aa:Zi s3 i (jt m3 s)=if x=b i then [] else [(1,(i:Int),(((i:Int),b i+1),d))]:=by
   unfold Zi;rw [af,ae,aj,List.drop_nil]
   rcases hxb with e|e
   ·rw [if_pos e,List.drop_of_length_le (by rw [je];omega)];rfl
   rw [if_neg (by omega),e,xI,Nat.zero_add,List.drop_left' (by rw [je])];rfl
  obtain⟨M4,a6,aw⟩:∃M4,Qs (some (QF n)) (tr3++Zi s3 i (jt m3 s))=some M4/\xX n d a' (List.replicate 16 0) [] (λ_=>0) M4:=by
   rw [aa]
   rcases hxb with e|e
   ·rw [if_pos e,List.append_nil]
    refine⟨M3,hM3,?_⟩
    have:a'=b:=by
     funext j
     by_cases hj:j=i
     ·subst hj;rw [an,e]
     rw [am j hj,hbj j hj]
    rw [this];exact hok3
   rw [if_neg (by omega)]
   obtain⟨M4,q1,q2⟩:=hok3.accept hi hn hd (by omega) (by have:vD (List.replicate 16 0) i=0:=(by unfold vD;rw [List.getElem?_replicate];split<;>rfl);omega);refine⟨M4,by rw [qq,hM3,qX q1];rfl,?_⟩
   have:a'=upd b i:=by
    funext j
    unfold upd
    by_cases hj:i=j
    ·subst hj;rw [if_pos rfl,an,e]
    rw [if_neg hj,am j (λe=>hj e.symm),hbj j (λe=>hj e.symm)]
   rw [this];exact q2
  refine⟨a',_,a4,⟨_,_,_,hR,Z8 hq3 i hs3 _,λj=>?_,by simpa using hl3,λj s' hj=>?_,M4,a6,aw⟩,by simpa using a0,λj m' hm'=>?_⟩
  ·by_cases hj:i=j
   ·subst hj
    rw [List.getElem?_set_self (by omega)];have:=hg3 i;rw [hs3] at this;exact this
   rw [List.getElem?_set_ne hj];exact hg3 j
  ·by_cases hij:i=j
   ·subst hij
    rw [List.getElem?_set_self (by omega)] at hj
    cases hj
    refine⟨?_,?_⟩
    ·show max s3.accepted (jt m3 s).acc.length=a' i
     rw [af,je,aj,an];omega
    show max s3.delivered (jt m3 s).loc.log.length=0
    rw [ae,ax];rfl
   rw [List.getElem?_set_ne hij] at hj
   have:=hse3 j s' hj;exact⟨by rw [this.1,hbj j (λe=>hij e.symm),am j (λe=>hij e.symm)],this.2⟩
  by_cases hij:i=j
  ·subst hij
   rw [List.getElem?_set_self ad] at hm'
   cases hm'
   rw [an];exact⟨az.less (by omega),a5⟩
  rw [List.getElem?_set_ne hij] at hm'
  rw [am j (λe=>hij e.symm)];exact h.nodes j m' hm'
 have a2:∀(m2:zr),(vU m2).1={m2 with down:=true} :=λm2=>by
  unfold vU
  cases hdn:m2.down
  ·rw [if_neg (by simp)]
  rw [if_pos rfl,← hdn]
 have au:qS d 0 (zeT v s) (249800+200) i 0 (a i) m:=hc
 cases cut with
 |none=>
  obtain⟨a3,al⟩:=au.broadcast (by omega) hd (by omega) (by omega);have ak:=zgS au (by omega) hd (by omega) hk;have hB:=zfp (s:=s) hW hq hm ag d;rw [if_pos a3,List.append_nil] at hB;have ai:=Z8 hq i ag (zv m d).1;have hX:=zfo (s:=s) hB ai (List.getElem?_set_self ad);rw [List.set_set,a2] at hX
  have aa:Zi si i (zv m d).1=[(1,(i:Int),(((i:Int),a i+1),d))]:=by
   unfold Zi;rw [al.acc,ap,xI,Nat.zero_add,List.drop_left' (by rw [je]),al.loc,aq];rfl
  obtain⟨M2,q1,q2⟩:=ay.accept hi hn hd (by omega) (by have:vD (List.replicate 16 0) i=0:=(by unfold vD;rw [List.getElem?_replicate];split<;>rfl);omega)
  refine fin _ (a i+1) _ _ _ _ (JL si (zv m d).1) (upd a i) M2 hX ai (List.getElem?_set_self ac) (by simpa using a1) (λj=>?_) (λj s' hj=>?_) (by rw [aa,qq,hM,qX q1];rfl) q2 (λj hj=>by unfold upd;rw [if_neg (λe=>hj e.symm)]) (.inr (by unfold upd;rw [if_pos rfl])) (.inl (by unfold upd;rw [if_pos rfl])) (.inr rfl)
   ⟨ak.ide,ak.ver,ak.bad,ak.cap,ak.kept⟩
  ·by_cases hj:i=j
   ·subst hj
    rw [List.getElem?_set_self ac];have:=ao i;rw [ag] at this;exact this
   rw [List.getElem?_set_ne hj];exact ao j
  by_cases hij:i=j
  ·subst hij
   rw [List.getElem?_set_self ac] at hj
   cases hj
   refine⟨?_,?_⟩
   ·show max si.accepted (zv m d).1.acc.length=_
    rw [al.acc,je,ap];unfold upd;rw [if_pos rfl];omega
   show max si.delivered (zv m d).1.loc.log.length=0
   rw [al.loc,aq];rfl
  rw [List.getElem?_set_ne hij] at hj
  have:=ar j s' hj;exact⟨by rw [this.1];unfold upd;rw [if_neg hij],this.2⟩
 |some c=>
  obtain⟨e1,e2,e3,e4,x,hx,ah⟩:=ziW au (by omega) hd (by omega) hk c;have hC:=zmh (s:=s) hW hq hm (c:Int);have hB:=zfp (s:=s) hC hq (List.getElem?_set_self ad) ag d;rw [if_neg e1,List.set_set] at hB;have ai:=Z8 hq i ag (zv (J4 m c).1 d).1;have hX:=zfo (s:=s) hB ai (List.getElem?_set_self ad);rw [List.set_set,a2] at hX
  have aa:Zi si i (zv (J4 m c).1 d).1=[]:=by
   unfold Zi;rw [e3,e4,ap,aq,List.drop_of_length_le (by rw [je];omega)];rfl
  refine fin _ x _ _ _ _ (JL si (zv (J4 m c).1 d).1) a M hX ai (List.getElem?_set_self ac) (by simpa using a1) (λj=>?_) (λj s' hj=>?_) (by rw [aa,List.append_nil,qq,hM,qX (ay.refuse hi _)];rfl) ay (λj _=>rfl) (.inl rfl) hx hx
   ⟨ah.ide,ah.ver,ah.bad,ah.cap,ah.kept⟩
  ·by_cases hj:i=j
   ·subst hj
    rw [List.getElem?_set_self ac];have:=ao i;rw [ag] at this;exact this
   rw [List.getElem?_set_ne hj];exact ao j
  by_cases hij:i=j
  ·subst hij
   rw [List.getElem?_set_self ac] at hj
   cases hj
   refine⟨?_,?_⟩
   ·show max si.accepted (zv (J4 m c).1 d).1.acc.length=a i
    rw [e3,je,ap];omega
   show max si.delivered (zv (J4 m c).1 d).1.loc.log.length=0
   rw [e4,aq];rfl
  rw [List.getElem?_set_ne hij] at hj
  exact ar j s' hj
end
section
open Go
theorem tk0(j:Nat):vD (List.replicate 16 0) j=0:=by unfold vD;rw [List.getElem?_replicate];split<;>rfl
theorem zgT(v:Int)(s:StD)(d:List UInt8)(n:Nat):Zu v s d n (λ_=>0) (Z7 n v 262144 s) ((List.range n).map λ(i:Nat)=>zhv i v 262144 [] s):=by
 refine⟨⟨List.replicate n yA,[],[],⟨rfl,rfl,rfl,rfl,rfl,rfl⟩,λi=>?_,λj=>?_,by simp,λj s' hj=>?_,QF n,rfl,zlF n d⟩,by simp,λj m hm=>?_⟩
 ·rw [List.getElem?_replicate];split<;>exact⟨rfl,rfl⟩
 ·rw [List.getElem?_replicate];split<;>rfl
 ·rw [List.getElem?_replicate] at hj
  split at hj
  ·cases hj;exact⟨rfl,rfl⟩
  cases hj
 rw [List.getElem?_map] at hm
 obtain⟨i,hi,rfl⟩:=Option.map_eq_some_iff.1 hm;obtain⟨aa,rfl⟩:=N6.1 hi;rw [List.getElem_range]
 exact⟨⟨rfl,rfl,rfl,rfl,λq _=>rfl,λq _=>rfl,rfl,rfl,rfl,rfl,rfl,by show 0+250000<=_;omega,rfl,rfl,⟨rfl,λc=>by show(zE _ []).isSome=_;simp [zE]⟩,N0 _⟩,
  ⟨rfl,rfl,rfl,rfl,Yk 262144⟩⟩
def vx(s:StD)(d:List UInt8)(W:zf)(l:List (Nat×Option Nat)):zf:=l.foldl (λW x=>xY s d W x.1 x.2) W
theorem YF(s:StD)(d:List UInt8)(W:zf)(l:List (Nat×Option Nat))(x:Nat×Option Nat):vx s d W (l++ [x])=xY s d (vx s d W l) x.1 x.2:=by
 unfold vx;rw [List.foldl_append];rfl
theorem Zu.rounds {v:Int}{s:StD}{d:List UInt8}{n:Nat}(hn:n<=16)(hd:d.length<=100):∀(l:List (Nat×Option Nat)) (a:Nat->Nat) (W:zf) (ns:List zr),Zu v s d n a W ns->(∀x∈l,x.1<n)->(∀j,a j+l.length<=100)->
 ∃a' ns',Zu v s d n a' (vx s d W l) ns'/\(∀j,a' j<=a j+l.length)/\Zx a' n<=Zx a n+l.length
 | [],a,W,ns,h,_,_=>⟨a,ns,h,λ_=>N0 _,N0 _⟩
 |x::l,a,W,ns,h,hl,ha=>by
  have hx:=hl x (List.mem_cons_self ..);simp only [List.length_cons] at ha⊢;obtain⟨a1,ns1,h1,h2⟩:=h.round hn hd hx (λj=>by have:=ha j;omega) x.2
  have hup:∀j,a1 j<=a j+1:=λj=>by
   rcases h1 with e|e
   ·rw [e];omega
   rw [e];unfold upd;split<;>omega
  have hsum:Zx a1 n<=Zx a n+1:=by
   rcases h1 with e|e
   ·rw [e];omega
   rw [e,za6 (f:=a) (g:=upd a x.1) (i:=x.1) (c:=1) (by unfold upd;rw [if_pos rfl]) (λj hj=>by unfold upd;rw [if_neg (λe=>hj e.symm)]) n hx]
   exact N0 _
  obtain⟨a2,aa,g1,g2,g3⟩:=Zu.rounds hn hd l a1 _ ns1 h2 (λy hy=>hl y (U7 _ hy)) (λj=>by have:=ha j;have:=hup j;omega);exact⟨a2,aa,g1,λj=>by have:=g2 j;have:=hup j;omega,by omega⟩
theorem Zu.calm {v:Int}{s:StD}{d:List UInt8}{n:Nat}{a:Nat->Nat}{W:zf}{ns:List zr}(h:Zu v s d n a W ns)(ha:∀j,a j<=100):Jo (zcK n d a) v s d a n 0 0 250000 (List.replicate 16 0) [] W ns:=by
 obtain⟨ss,ld,tr,hW,hq,aa,hP⟩:=h.is;refine⟨⟨ss,ld,tr,hW,hq,hP.1,λj=>by rw [aa j];exact N0 _,hP⟩,h.len,by simp,⟨0,[],λj m hm=>?_⟩,λj=>by have:=ha j;omega⟩;rw [tk0];exact(h.nodes j m hm).1
theorem zgU {v:Int}{s:StD}{d:List UInt8}{n:Nat}(hv:known v=true)(hn:n<=16)(hd:d.length<=100){l:List (Nat×Option Nat)}(hl:∀x∈l,x.1<n)(hlen:l.length<=50){r:Nat}(hr:l.length<r):
 ∃a g W',Vb s r g (vx s d (Z7 n v 262144 s) l) W' true/\QE (zcK n d a) v s d a n 0 W'/\g<=l.length*1296/\Zx a n<=l.length/\∀j,a j<=l.length:=by
 obtain⟨a,ns,hC,ha,aa⟩:=Zu.rounds (v:=v) hn hd l _ _ _ (zgT v s d n) hl (λj=>by omega);have ac:∀j,a j<=100:=λj=>by have:=ha j;omega
 have hz:∀m,Zx (λ_=>0) m=0:=by
  intro m
  induction m with
  |zero=>rfl
  |succ m ih=>unfold Zx;rw [ih]
 have ad:Zx (vD (List.replicate 16 0)) n=0:=by
  rw [qW (g:=λ_=>0) n (λj _=>tk0 j)];exact hz n
 have ae:zk2 a (List.replicate 16 0) n=Zx a n:=by
  unfold zk2;exact qW n (λj _=>by rw [tk0];rfl)
 rw [hz n,Nat.zero_add] at aa;obtain⟨g,W',q1,q2,q3⟩:=zcH (zcL hn) hv hn hd r (Zx a n) _ ⟨⟨0,0,_,_,[],ns,hC.calm ac,⟨by rw [ad];rfl,λi _ _=>by rw [tk0];rfl⟩,ae,by omega,by omega,by omega⟩⟩ (by omega);exact⟨a,g,W',q1,q2,Nat.le_trans q3 (Nat.mul_le_mul_right _ aa),aa,λj=>by have:=ha j;omega⟩
theorem QE.ends {v:Int}{s:StD}{d:List UInt8}{n:Nat}{a:Nat->Nat}{W:zf}(h:QE (zcK n d a) v s d a n 0 W):
 (∃L:zP,L.log.length=Zx a n/\∀i,i<n->(zo W i).loc=L)/\W.nodes.length=n/\(∀i,i<n->(zo W i).acc.length=a i)/\∃M,Qs (some (QF n)) W.trace=some M:=by
 obtain⟨L,h1, -,h3,h4⟩:=h.logs;obtain⟨k,G,room,tk,log2,ns,hC,hL,hp, -⟩:=h.ex;obtain⟨cnt,log,hc⟩:=hC.nodes;obtain⟨ss,ld,tr,hW, -, -, -, -, -,M,hM, -⟩:=hC.is;refine⟨⟨L,h1,h4⟩,h3,λi hi=>?_,M,by rw [hW.trace];exact hM⟩;obtain⟨m,hm,hn⟩:=hC.node hi;rw [hn,(hc i m hm).acc,je]
end
section
open Go Go.RowKit
def zaq(w:World)(e:TypeId)(sz:Nat)(v:Value)(n:Nat)(xs:List Value):Prop:=
 xs.length=n*sz/\((v=.slice none 0 0/\n=0)∨
  ∃g cap cur,v=.slice (some ⟨g,0,none⟩) n cap/\w.heap[g]?=some (.cells cur e (0,0))/\n<=cap/\cap<=maxLen/\cap*sz<=cur.size/\cur.toList.take (n*sz)=xs)
theorem Row.wideV {w:World}{e:TypeId}{sz:Nat}{v:Value}{n:Nat}{xs:List Value}(h:Row w e sz v n xs):zaq w e sz v n xs:=by
 refine⟨h.1,?_⟩
 rcases h.2 with h|⟨g,cap,cur,rfl, -,hg,hc,hm,hs,ht⟩
 ·exact .inl h
 exact .inr ⟨g,cap,cur,rfl,hg,hc,hm,by omega,by simpa using ht⟩
section
variable {w w':World}{e:TypeId}{sz:Nat}{v:Value}{n:Nat}{xs:List Value}
theorem zaq.lt(h:zaq w e sz v n xs){g:Nat}(hg:v.ownBlock=some g):g<w.heap.size:=by
 rcases h.2 with⟨rfl,_⟩|⟨g',cap,cur,rfl,hgg,_⟩
 ·cases hg
 cases hg;exact(N5.1 hgg).1
theorem zaq.kept(h:zaq w e sz v n xs)(hb:∀g,v.ownBlock=some g->w'.heap[g]?=w.heap[g]?):zaq w' e sz v n xs:=by
 refine⟨h.1,?_⟩
 rcases h.2 with h2|⟨g,cap,cur,rfl,hg,r⟩
 ·exact .inl h2
 exact .inr ⟨g,cap,cur,rfl,(hb g rfl).trans hg,r⟩
theorem zaq.type(h:zaq w e sz v n xs){g:Nat}(hg:v.ownBlock=some g):∃cur,w.heap[g]?=some (.cells cur e (0,0)):=by
 rcases h.2 with⟨rfl,_⟩|⟨g',cap,cur,rfl,hgg,_⟩
 ·cases hg
 cases hg;exact⟨cur,hgg⟩
theorem zaq.ne_blk(h:zaq w e sz v n xs){B:Nat}{cs:Array Value}{T:TypeId}(hB:Blk w B cs T)(hT:e≠T){g:Nat}(hg:v.ownBlock=some g):g≠B:=by
 rintro rfl;obtain⟨aa,hc⟩:=h.type hg;have:=hc.symm.trans hB;simp at this
 exact hT this.2
theorem zaq.shape(h:zaq w e sz v n xs):∃a c,v=.slice a n c:=by
 rcases h.2 with⟨rfl,rfl⟩|⟨g,cap,cur,rfl,_⟩
 ·exact⟨_,_,rfl⟩
 exact⟨_,_,rfl⟩
theorem zaq.src(h:zaq w e sz v n xs):Src w v sz n xs:=by
 refine⟨h.1,?_⟩
 rcases h.2 with h0|⟨g,cap,cur,rfl,hg,hc,_,hs,ht⟩
 ·exact .inl h0
 refine .inr ⟨g,0,cap,rfl,hc,λj u hu=>?_⟩
 have hj:=(N6.1 hu).1;rw [h.1] at hj;have hB:Blk w g cur e:=hg;rw [Nat.zero_add,hB.cell,← hu,← ht,List.getElem?_take,if_pos hj];simp
end
theorem zaq.clip {w:World}{e:TypeId}{sz:Nat}{a:Option Addr}{n c:Nat}{xs:List Value}(h:zaq w e sz (.slice a n c) n xs)(k:Nat)(hk:k<=n)(ha:a≠none):zaq w e sz (.slice a k k) k (xs.take (k*sz)):=by
 have hm:=Nat.mul_le_mul_right sz hk
 rcases h.2 with⟨h0,h1⟩|⟨g,cap,cur,hv,hg,hc,hmx,hs,ht⟩
 ·simp at h0;exact absurd h0.1 ha
 cases hv
 have aa:=Nat.mul_le_mul_right sz hc;refine⟨by rw [N7,h.1];omega,.inr ⟨g,k,cur,rfl,hg,N0 _,by omega,by omega,?_⟩⟩;rw [← ht,List.take_take,Nat.min_eq_left hm]
theorem Qa {P:Program}{t e:TypeId}{size bytes:Nat}{z:Value}(T:Yc P t e size bytes z){w:World}{v src:Value}{n m:Nat}{xs news:List Value}
 (hv:zaq w e size v n xs) (hs:Src w src size m news) (h1:∀u∈news,u.oneCell'=true) (hb:n+m<=1073741824) (ty:TypeId):
 ∃v' w',(Builtin.append_ #[t,t] ty #[v,src]).run P w=.ok v' w'/\zaq w' e size v' (n+m) (xs++news)/\w.grownBy w' v.ownBlock/\(v'.ownBlock=v.ownBlock∨v'.ownBlock=some w.heap.size):=by
 obtain⟨i,hi,al,ae,an⟩:=info_parts T.info
 have ag:(n+m)*bytes<=140737488355328:=by
  have:=Nat.mul_le_mul hb T.small;omega
 rcases hv.2 with⟨rfl,rfl⟩|⟨g,cap,cur,rfl,hg,hnc,hcm,hcs,htake⟩
 ·have hx:xs=[]:=N9 (by simpa using hv.1)
  subst hx;obtain⟨v',w',h2,h3,h4,h5⟩:=zQ T (z7 w e size) hs h1 hb ty;exact⟨v',w',h2,h3.wideV,h4,h5⟩
 rcases hs.2 with⟨rfl,rfl⟩|⟨b,off,sc,rfl,_,hr⟩
 ·have hn:news=[]:=N9 (by simpa using hs.1)
  subst hn;refine⟨.slice (some ⟨g,0,none⟩) n cap,w,?_,by simpa using hv,⟨rfl,rfl,rfl,N0 _,λ_ _ _=>rfl⟩,.inl rfl⟩;simp [Builtin.append_,run_underlying T.under,sizeOf,typeInfo,hi,Builtin.lenOf,Builtin.firstCells,loadCells,hnc,storeCells]
 have ai:∀j,(⟨b,off,none⟩:Addr).add j=⟨b,off+j,none⟩:=λj=>by unfold Addr.add;split<;>simp_all
 have hl:news.length=m*size:=hs.1;have ac:(xs++news).length=(n+m)*size:=by rw [N1,hv.1,hl,Nat.add_mul]
 have aa:∀j u,news[j]?=some u->w.cell? ((⟨b,off,none⟩:Addr).add j)=some u:=λj u hu=>by rw [ai];exact hr j u hu
 by_cases hroom:n+m<=cap
 ·have ao:=Nat.mul_le_mul_right size hroom
  rw [Nat.add_mul] at ao;have ah:n*i.size+news.length<=cur.size:=by rw [ae,hl];omega
  have ad:=run_append_room (P:=P) w t ty e i T.under hi g n cap cur hg ⟨b,off,none⟩ m sc news (by rw [ae];exact hl) aa h1 hroom ah;refine⟨_,_,ad,⟨ac,.inr ⟨g,cap,_,rfl,setRow_heap w g cur _ e _ hg,hroom,hcm,?_,?_⟩⟩,⟨rfl,rfl,rfl,by simp,λk _ hk=>setRow_other w g k _ (λe=>hk (by simp [Value.ownBlock,e]))⟩,.inl rfl⟩
  ·simp only [List.size_toArray,N1,N7,U3,Array.length_toList,ae]
   omega
  rw [ae,htake,← ac]
  exact List.take_left
 have af:∀j u,xs[j]?=some u->w.cell? ((⟨g,0,none⟩:Addr).add j)=some u:=λj u hu=>by
  have hj:=(N6.1 hu).1;rw [hv.1] at hj;have hB:Blk w g cur e:=hg;have ha:(⟨g,0,none⟩:Addr).add j=⟨g,0+j,none⟩:=by unfold Addr.add;split<;>simp_all
  rw [ha,Nat.zero_add,hB.cell,← hu,← htake,List.getElem?_take,if_pos hj];simp
 have ad:=run_append_grow (P:=P) w t ty e i z T.under hi al ⟨g,0,none⟩ n cap xs (by rw [ae];exact hv.1) af ⟨b,off,none⟩ m sc news (by rw [ae];exact hl) aa (by omega) (by omega) (growslice_fits (by omega) (by rw [an];omega));have ak:=grownCap_ge w (n+m) cap e;have aj:grownCap w (n+m) cap e<=maxLen:=grownCap_le_maxLen w (n+m) cap e (by unfold maxLen;omega);refine⟨_,_,ad,⟨ac,.inr ⟨w.heap.size,_,_,rfl,heap_alloc_new w.drew _,ak,aj,?_,?_⟩⟩,⟨rfl,rfl,rfl,by simp,λk hk _=>((N2 w.drew.heap.size w.drew).alloc (N0 _) _).block k hk⟩,.inr rfl⟩
 ·have am:=Nat.mul_le_mul_right size ak
  rw [Nat.add_mul] at am;simp only [Array.size_append,List.size_toArray,size_zeroCells,T.cells,hl,hv.1];rw [Nat.sub_mul,Nat.add_mul];omega
 simp only [Array.toList_append,List.append_assoc]
 rw [← List.append_assoc,← ac];exact List.take_left
end
section
open Go Go.RowKit
theorem ziX(w:World)(e:TypeId)(size:Nat):Row (w.alloc (.cells #[] e)) e size (.slice (some ⟨w.heap.size,0,none⟩) 0 0) 0 []:=
 ⟨by simp,.inr ⟨w.heap.size,0,#[],rfl,Nat.zero_le _,World.alloc_heap_new w _,N0 _,Nat.zero_le _,by simp,by simp⟩⟩
def jh(x:(Nat×Int×List UInt8)):List Value:=[.int .u32 x.1,.int .i64 x.2.1,.string (bs x.2.2)]
theorem xZ(l:List (Nat×Int×List UInt8)):(l.flatMap jh).length=l.length*3:=by
 induction l with
 |nil=>rfl
 |cons m l ih=>simp [List.flatMap_cons,jh,ih];omega
def jT(B:Nat)(last:Nat)(notes:List (Nat×Int×List UInt8))(t:List Nat)(ow:Own)(W:World):Prop:=
 ∃v,Blk W B #[.int .u32 last,v] 122/\zaq W 178 3 v notes.length (notes.flatMap jh)/\ow B=t/\∀g,v.ownBlock=some g->ow g=t
theorem jT.loc(B last:Nat)(notes:List (Nat×Int×List UInt8))(t:List Nat):yI t (jT B last notes t):=by
 rintro ow ow' W W'⟨lv,hB,hR,o1,o2⟩ hs hk;have kB:=hk B hB.lt (by rw [o1];exact Sub.rfl' t);have kR:∀g,lv.ownBlock=some g->ow' g=ow g/\W'.heap[g]?=W.heap[g]?:=λg hg=>hk g (hR.lt hg) (by rw [o2 g hg];exact Sub.rfl' t)
 exact⟨lv,hB.kept kB.2,hR.kept (λg hg=>(kR g hg).2),kB.1.trans o1,λg hg=>(kR g hg).1.trans (o2 g hg)⟩
def Jg(B last:Nat)(notes:List (Nat×Int×List UInt8))(t:List Nat)(ow:Own)(w:World)(v:Value)(e:Ending)(w':World):Prop:=
 e=.returned v/\∃ow',zt t ow w ow' w'/\jT B last notes t ow' w'
end
open Go Go.RowKit Go.Shelf Go.Extern.Stop Go.Stop Go.Extern
attribute [local go_sem] Oper.semAt_some zB zp
theorem zlG:Yc prog 120 178 3 32 (.agg #[.int .u32 0,.int .i64 0,.string ⟨#[]⟩]):=⟨Tryz.underlying120,by kernel_rfl,rfl,by decide,by decide⟩
theorem Zp(l:List (Nat×Int×List UInt8)):∀u∈l.flatMap jh,u.oneCell'=true:=by
 intro u hu;obtain⟨m,_,hm⟩:=List.mem_flatMap.1 hu;simp only [jh,List.mem_cons,List.mem_nil_iff,or_false] at hm
 rcases hm with rfl|rfl|rfl<;>rfl
theorem ziY(w:World):Calls prog 23 #[] w λe w'=>e=.returned (.pointer (some ⟨w.heap.size,0,none⟩))/\w'=w.alloc (.cells #[.int .u32 0,.slice none 0 0] 122):=by
 go_enter func23,ntmps23
 go_wp2;go_ret
 exact⟨rfl,rfl⟩
theorem zkC(fb last n c:Nat)(a:Option Addr)(p:Int)(w:World)(hB:Blk w fb #[.int .u32 last,.slice a n c] 122):Calls prog 146 #[.pointer (some ⟨fb,0,none⟩),.int .i64 p] w λe w'=>
 e=.returned (.bool (decide (0<=p)&& decide (p<(n:Int))))/\w'=w:=by
 have e0:=hB.cell
 cases h0:decide (0<=p)
 ·go_enter func146,ntmps146
  go_wp2;go_ret
  exact⟨rfl,rfl⟩
 cases h1:decide (p<(n:Int))
 ·go_enter func146,ntmps146
  go_wp2;go_ret
  exact⟨rfl,rfl⟩
 go_enter func146,ntmps146
 go_wp2;go_ret
 exact⟨rfl,rfl⟩
theorem zgV(fb last:Nat)(v:Value)(hl:last<4294967295)(w:World)(hB:Blk w fb #[.int .u32 last,v] 122):Calls prog 206 #[.pointer (some ⟨fb,0,none⟩)] w λe w'=>
 e=.returned (.int .u32 (last+1:Nat))/\w'=w.setCell ⟨fb,0,none⟩ (.int .u32 (last+1:Nat)):=by
 have e0:=hB.cell;have f0:=hB.frozen;have l0:=hB.lt;have hw:IntKind.u32.wrap ((last:Int)+1)=((last+1:Nat):Int):=by rw [IntKind.wrap_u32];omega
 have r0:=(hB.set (o:=0) (.int .u32 (last+1:Nat))).cell
 go_enter func206,ntmps206
 go_wp2;go_ret
 exact⟨rfl,rfl⟩
theorem ziZ(B last:Nat)(notes:List (Nat×Int×List UInt8))(t:List Nat)(ow:Own)(src:Value)(l:List (Nat×Int×List UInt8))(w:World)(h:jT B last notes t ow w)(hm:Src w src 3 l.length (l.flatMap jh))(hl:notes.length+l.length<=1073741824):
 Calls prog 207 #[.pointer (some ⟨B,0,none⟩),src] w (Jg B last (notes++l) t ow w (.tuple #[])):=by
 obtain⟨lv,hB,hR,o1,o2⟩:=h;have e0:=hB.cell;have l0:=hB.lt
 obtain⟨ma,mm,mc,rfl⟩:∃a n c,src=.slice a n c:=by
  rcases hm.2 with⟨h, -⟩|⟨b,off,cap,h, -⟩<;>exact⟨_,_,_,h⟩
 obtain⟨ha,hc,rfl⟩:=hR.shape;obtain⟨ah,W3,ae,aa,ag,ad⟩:=Qa zlG hR hm (Zp l) hl 120;have ac:(Value.slice ha notes.length hc).ownBlock≠some B:=λe=>(hR.ne_blk hB (by decide) e) rfl
 have k3:=hB.kept (ag.block B hB.lt (λe=>ac e.symm));have f3:=k3.frozen;have l3:=k3.lt;have c3:=k3.cell;obtain⟨sa,sc,rfl⟩:=aa.shape;clear hm;replace hB:=hid hB;replace hR:=hid hR;replace aa:=hid aa;replace k3:=hid k3;replace o2:=hid o2;replace ad:=hid ad;replace ac:=hid ac
 go_enter func207,ntmps207
 go_wp2_with (at_builtin
              refine zw rfl _ _ _ rfl rfl rfl ae ?_)
 go_end0
 have af:∀g,(Value.slice sa (notes.length+l.length) sc).ownBlock=some g->((Value.slice ha notes.length hc).ownBlock=some g∨g=w.heap.size):=λg hg=>by
  have:=ad.out;rw [hg] at this
  rcases this with h|h
  ·exact .inl h.symm
  right;simpa using h
 refine⟨rfl,ow.ext w.heap.size (λk=>(Value.slice sa (notes.length+l.length) sc).ownBlock=some k) t,⟨?_,λk hk=>Own.ext_old hk⟩,.slice sa (notes.length+l.length) sc,k3.out.set (o:=1) _,?_,?_,?_⟩
 ·exact(Mod.grown (X:=λk=>Sub t (ow k)) ag (λk h=>by rw [o2.out k h];exact Sub.rfl' t)).thenSet (p:=⟨B,1,none⟩) (by simp only [o1];exact Sub.rfl' t) _
 ·simp only [N1,U5]
  refine aa.out.kept (λg hg=>N4 _ _ _ _ (λe=>?_));have e':g=B:=e;subst e'
  rcases af g hg with h|h
  ·exact ac.out h
  omega
 ·rw [Own.ext_old l0,o1]
 intro g hg
 rcases af g hg with h|h
 ·rw [Own.ext_old (hR.out.lt h),o2.out g h]
 rw [Own.ext_new (by omega) hg]
theorem zcM {B last last':Nat}{notes:List (Nat×Int×List UInt8)}{t:List Nat}{ow:Own}{W:World}(h:jT B last notes t ow W):zt t ow W ow (W.setCell ⟨B,0,none⟩ (.int .u32 last'))/\jT B last' notes t ow (W.setCell ⟨B,0,none⟩ (.int .u32 last')):=by
 obtain⟨lv,hB,hR,o1,o2⟩:=h;refine⟨zt.setCell W ⟨B,0,none⟩ _ (by rw [o1];exact Sub.rfl' t),lv,hB.set (o:=0) _,hR.kept (λg hg=>N4 _ _ _ _ (λe=>?_)),o1,o2⟩;exact hR.ne_blk hB (by decide) hg e
def yF(last:Nat)(notes:List (Nat×Int×List UInt8))(d:Int)(s:List UInt8):Nat×List (Nat×Int×List UInt8)×Nat×Int:=if 1000<=notes.length then(last,notes,0,30)else(last+1,notes++ [(last+1,d,s)],last+1,0)
theorem zcN(B last:Nat)(notes:List (Nat×Int×List UInt8))(hlast:last<4294967295)(t:List Nat)(ow:Own)(d:Int)(s:List UInt8)(w:World)(h:jT B last notes t ow w)(hn:notes.length<=1000):
 Calls prog 155 #[.pointer (some ⟨B,0,none⟩),.int .i64 d,.string (bs s)] w (Jg B (yF last notes d s).1 (yF last notes d s).2.1 t ow w (.tuple #[.int .u32 ((yF last notes d s).2.2.1:Nat),.int .i64 (yF last notes d s).2.2.2])):=by
 have h0:=h;have aa:=zcM (last':=last+1) h;obtain⟨lv,hB,hR,o1,o2⟩:=h;have e0:=hB.cell;obtain⟨ha,hc,rfl⟩:=hR.shape;have ad:=zgV B last _ hlast w hB;unfold yF
 by_cases hf:1000<=notes.length
 ·have t1:decide ((1000:Int)<=(notes.length:Int))=true:=by simp;omega
  rw [if_pos hf];replace h0:=hid h0;clear aa hB hR
  go_enter func155,ntmps155
  go_wp2;go_ret2
  exact⟨rfl,ow,zt.refl _ _ _,h0.out⟩
 have t1:decide ((1000:Int)<=(notes.length:Int))=false:=by simp;omega
 rw [if_neg hf];obtain⟨W1,ae⟩:∃W1,W1=w.setCell ⟨B,0,none⟩ (.int .u32 (last+1:Nat)):=⟨_,rfl⟩;rw [← ae] at aa ad;have ac:=λW hb hs=>ziZ B (last+1) notes t ow (.slice (some ⟨W1.heap.size,0,none⟩) 1 1) [(last+1,d,s)] W ((jT.loc B (last+1) notes t).below aa.2 hb) hs (by simp;omega)
 replace ac:=hid ac;replace aa:=hid aa;replace ad:=hid ad;clear h0 hB hR
 go_enter func155,ntmps155
 go_wp2_with fail
 refine ad.out.mono ?_;rintro e w1⟨rfl,rfl⟩;clear ae e0;go_wp2_with fail
 refine(ac.out (w1.alloc (.cells #[.int .u32 (last+1:Nat),.int .i64 d,.string (bs s)] 178)) (pbx) (jP (n:=1) (size:=3) (cap:=1) (Blk.new rfl) rfl (N0 1))).mono ?_;rintro e w2⟨rfl,af,ag,hF⟩;go_wp2;go_ret2
 exact⟨rfl,af,(aa.out.1.trans (zt.of_below t ow (pbx))).trans ag,hF⟩
theorem zgW(B last:Nat)(notes:List (Nat×Int×List UInt8))(hlast:last<4294967295)(t:List Nat)(ow:Own)(d:Int)(hd0:0<=d)(hd:d<16)(s:List UInt8)(w:World)(h:jT B last notes t ow w)(hn:notes.length<=1000):
 Calls prog 191 #[.pointer (some ⟨B,0,none⟩),.int .i64 d,.string (bs s)] w (Jg B (yF last notes d s).1 (yF last notes d s).2.1 t ow w (.tuple #[.int .u32 ((yF last notes d s).2.2.1:Nat),.int .i64 (yF last notes d s).2.2.2])):=by
 have hl:=zcN B last notes hlast t ow d s w h hn;have t1:decide (d<0)=false:=by simp;omega
 have t2:decide ((16:Int)<=d)=false:=by simp;omega
 generalize yF last notes d s=q at*
 obtain⟨q1,q2,q3,q4⟩:=q;simp only at hl⊢;replace hl:=hid hl;clear h
 go_enter func191,ntmps191
 go_wp2_with fail
 refine hl.out.mono ?_;rintro e w1⟨rfl,aa,hs,hF⟩;go_wp2;go_ret2
 exact⟨rfl,aa,hs,hF⟩
theorem zba(w:World):(binOp .eql 120 (.slice none 0 0) (.slice none 0 0)).run prog w=.ok (.bool true) w:=by kernel_rfl
theorem zcO(a:Addr)(n c:Nat)(w:World):(binOp .eql 120 (.slice (some a) n c) (.slice none 0 0)).run prog w=.ok (.bool false) w:=by kernel_rfl
theorem zgX(v:Value)(l:List (Nat×Int×List UInt8))(w:World)(hv:Src w v 3 l.length (l.flatMap jh))(hb:l.length<=1073741824):Calls prog 165 #[v] w λe w'=>
 ∃v',e=.returned v'/\Row w' 178 3 v' l.length (l.flatMap jh)/\Below w.heap.size w w':=by
 have ae:=zba w;have ah:=λa n c=>zcO a n c w
 have ad:=hv
 rcases hv.2 with⟨rfl,h0⟩|⟨b,off,cap,rfl,hc,hr⟩
 ·obtain rfl:l=[]:=N9 h0
  go_enter func165,ntmps165
  go_wp2;go_ret
  exact⟨_,rfl,z7 _ _ _,N2 _ _⟩
 clear hr hv
 replace ad:=hid ad;replace hb:=hid hb
 go_enter func165,ntmps165
 go_wp2_with (at_builtin
              obtain⟨v',w',ac,aa,af,ag⟩:=zQ zlG (ziX w 178 3) (Src.below (Hid.out ad) ((N2 _ _).alloc (N0 _) _)) (Zp l) (by have:=hb.out;omega) 120
              refine zw rfl _ _ _ rfl rfl rfl ac ?_)
 go_ret
 exact⟨_,rfl,by simpa using aa,((N2 _ _).alloc (N0 _) _).grown af (by simp) (λk hk=>by simp [Value.ownBlock] at hk;omega)⟩
theorem zi0(B last:Nat)(notes:List (Nat×Int×List UInt8))(t:List Nat)(ow:Own)(w:World)(h:jT B last notes t ow w)(hn:notes.length<=1000):Calls prog 112 #[.pointer (some ⟨B,0,none⟩)] w λe w'=>
 ∃v',e=.returned v'/\Row w' 178 3 v' notes.length (notes.flatMap jh)/\Below w.heap.size w w':=by
 obtain⟨lv,hB,hR,o1,o2⟩:=h;have e0:=hB.cell;have hc:=zgX lv notes w hR.src (by omega);replace hc:=hid hc;clear hR hB o2
 go_enter func112,ntmps112
 go_wp2_with fail
 refine hc.out.mono ?_;rintro e w2⟨v',rfl,h1,h2⟩;go_wp2;go_ret
 exact⟨_,rfl,h1,h2⟩
theorem zej(l:List (Nat×Int×List UInt8))(k:Nat)(x:(Nat×Int×List UInt8))(hx:l[k]?=some x)(j:Nat)(hj:j<3):(l.flatMap jh)[k*3+j]?=(jh x)[j]?:=by
 induction l generalizing k with
 |nil=>simp at hx
 |cons y l ih=>
  rw [List.flatMap_cons]
  cases k with
  |zero=>simp at hx;subst hx;rw [U8 (by simp [jh];omega)];simp
  |succ k=>
   rw [U6 (by simp [jh];omega)];have:=ih k (by simpa using hx);rw [← this]
   congr 1
   simp [jh];omega
theorem zkD {W:World}{l:List (Nat×Int×List UInt8)}{b off cap:Nat}(h:Src W (.slice (some ⟨b,off,none⟩) l.length cap) 3 l.length (l.flatMap jh)){k:Nat}{x:(Nat×Int×List UInt8)}(hx:l[k]?=some x):
 W.cell? ⟨b,off+k*3,none⟩=some (.int .u32 (x.1:Nat))/\W.cell? ⟨b,off+k*3+1,none⟩=some (.int .i64 x.2.1)/\W.cell? ⟨b,off+k*3+2,none⟩=some (.string (bs x.2.2)):=by
 rcases h.2 with⟨h, -⟩|⟨b',off',cap',h, -,hr⟩
 ·cases h
 cases h
 have aa:∀j u,(jh x)[j]?=some u->j<3->W.cell? ⟨b,off+(k*3+j),none⟩=some u:=λj u hu hj=>hr _ u ((zej l k x hx j hj).trans hu)
 exact⟨aa 0 _ rfl (by omega),aa 1 _ rfl (by omega),aa 2 _ rfl (by omega)⟩
theorem zbb {W:World}{l:List (Nat×Int×List UInt8)}{b off cap:Nat}(h:Src W (.slice (some ⟨b,off,none⟩) l.length cap) 3 l.length (l.flatMap jh)){k:Nat}(hk:k<=l.length):
 Src W (.slice (some ⟨b,off+k*3,none⟩) (l.length - k) (cap - k)) 3 (l.drop k).length ((l.drop k).flatMap jh):=by
 rw [U3];refine⟨by rw [xZ,U3],.inr ⟨b,off+k*3,cap - k,rfl,?_,λj u hu=>?_⟩⟩
 ·rcases h.2 with⟨h, -⟩|⟨b',off',cap',h,hc,hr⟩
  ·cases h
  cases h;omega
 rcases h.2 with⟨h, -⟩|⟨b',off',cap',h,hc,hr⟩
 ·cases h
 cases h
 rw [Nat.add_assoc];refine hr _ u ?_;have aa:l.flatMap jh=(l.take k).flatMap jh++(l.drop k).flatMap jh:=by rw [← U5,List.take_append_drop]
 have hl:((l.take k).flatMap jh).length=k*3:=by rw [xZ,N7,Nat.min_eq_left hk]
 rw [aa,U6 (by omega),hl,Nat.add_sub_cancel_left];exact hu
def zi1(x:(Nat×Int×List UInt8)):Value:=.agg #[.int .u32 (x.1:Nat),.int .i64 x.2.1,.string (bs x.2.2)]
def zbc(notes:List (Nat×Int×List UInt8))(p:Int):List (Nat×Int×List UInt8)×(Nat×Int×List UInt8)×Int:=if p<0 then(notes,(0,0,[]),2)else match notes[p.toNat]? with
 |none=>(notes,(0,0,[]),2)
 |some x=>(notes.eraseIdx p.toNat,x,0)
theorem zfq {notes:List (Nat×Int×List UInt8)}{p:Int}(h:¬(0<=p/\p<notes.length)):zbc notes p=(notes,(0,0,[]),2):=by
 unfold zbc
 split
 ·rfl
 rw [List.getElem?_eq_none (by omega)]
theorem zi2 {notes:List (Nat×Int×List UInt8)}{k:Nat}{x:(Nat×Int×List UInt8)}(h:notes[k]?=some x):zbc notes (k:Int)=(notes.eraseIdx k,x,0):=by
 unfold zbc;rw [if_neg (by omega),Int.toNat_natCast,h]
theorem zgY(B last:Nat)(notes:List (Nat×Int×List UInt8))(t:List Nat)(ow:Own)(p:Int)(w:World)(h:jT B last notes t ow w)(hn:notes.length<=1000):
 Calls prog 99 #[.pointer (some ⟨B,0,none⟩),.int .i64 p] w (Jg B last (zbc notes p).1 t ow w (.tuple #[zi1 (zbc notes p).2.1,.int .i64 (zbc notes p).2.2])):=by
 have h0:=h;obtain⟨lv,hB,hR,o1,o2⟩:=h;obtain⟨ha,hc,rfl⟩:=hR.shape;have ae:=λW hW=>zkC B last notes.length hc ha p W hW
 by_cases hp:0<=p/\p<(notes.length:Int)
 ·obtain⟨k,rfl⟩:∃k:Nat,p=(k:Int):=⟨p.toNat,by omega⟩
  have hk:k<notes.length:=by omega
  obtain⟨x,hx⟩:∃x,notes[k]?=some x:=⟨_,N3 hk⟩;rw [zi2 hx];simp only [show decide (0<=(k:Int))=true by simp,show decide ((k:Int)<(notes.length:Int))=true by simpa using hk,Bool.and_self] at ae
  obtain⟨g,rfl⟩:∃g,ha=some ⟨g,0,none⟩:=by
   rcases hR.2 with⟨h,h1⟩|⟨g,cap,cur,h, -⟩
   ·omega
   cases h;exact⟨g,rfl⟩
  obtain⟨c0,c1,c2⟩:=zkD hR.src hx;simp only [Nat.zero_add] at c0 c1 c2;have lg:=hR.lt (g:=g) rfl;have ah:=hB.alloc (.cells #[.int .u32 0,.int .i64 0,.string ⟨#[]⟩] 178);have e0:=ah.cell;have cl:=λ(q:Addr)(hq:q.block<w.heap.size)=>((N2 w.heap.size w).alloc (N0 _) (.cells #[.int .u32 0,.int .i64 0,.string ⟨#[]⟩] 178)).cell hq
  have d0:=(cl ⟨g,k*3,none⟩ lg).trans c0;have d1:=(cl ⟨g,k*3+1,none⟩ lg).trans c1;have d2:=(cl ⟨g,k*3+2,none⟩ lg).trans c2;have y0:(0:Int)<=(k:Int):=by omega
  have y1:(k:Int)<(notes.length:Int):=by omega
  replace ae:=hid ae;replace h0:=hid h0;replace cl:=hid cl;clear c0 c1 c2
  go_enter func99,ntmps99
  go_wp2_with fail
  refine(ae.out _ ah).mono ?_;rintro e w1⟨rfl,aq⟩;obtain rfl:=aq.symm;go_wp2_with fail
  have hz:notes.length<=hc:=by
   rcases hR.2 with⟨h,h1⟩|⟨g,cap,cur,h, -,h2, -⟩
   ·omega
   cases h;exact h2
  have y2:(k:Int)<=(hc:Int):=by omega
  have y3:(0:Int)<=(k:Int)+1:=by omega
  have y4:(k:Int)+1<=(notes.length:Int):=by omega
  have y5:IntKind.i64.wrap ((k:Int)+1)=(k:Int)+1:=by rw [N8];omega
  have a1:=(ah.alloc (.cells #[.int .u32 (x.1:Nat),.int .i64 x.2.1,.string (bs x.2.2)] 178)).drew;refine zd [O 0,O 1,O 2,O 3,O 4,O 5,O 6,O 7,O 8,O 9,O 10,O 11,O 12,O 13,O 14,E 15,O 16,O 17,E 18] (some 18) (λw'=>Blk w' B #[.int .u32 last,.slice (some ⟨g,0,none⟩) notes.length hc] 122/\True) ⟨a1,trivial⟩ ?_
  refine Wb ?_
  obtain⟨W,hW⟩:∃W,W=((w.alloc (.cells #[.int .u32 0,.int .i64 0,.string ⟨#[]⟩] 178)).alloc (.cells #[.int .u32 (x.1:Nat),.int .i64 x.2.1,.string (bs x.2.2)] 178)).drew:=⟨_,rfl⟩;have ar:Below w.heap.size w W:=by rw [hW];exact pbx
  have a8:W.heap.size=w.heap.size+1+1:=by rw [hW];simp
  have k0:Blk W w.heap.size #[.int .u32 0,.int .i64 0,.string ⟨#[]⟩] 178:=by rw [hW];exact((Blk.new rfl).alloc _).drew
  have k1:Blk W (w.heap.size+1) #[.int .u32 (x.1:Nat),.int .i64 x.2.1,.string (bs x.2.2)] 178:=by rw [hW];exact(Blk.new (by simp)).drew
  have ax:=hR.kept (λq hq=>ar.block q (hR.lt hq))
  have ac:Src W (.slice (if hc=k+1 then some ⟨g,0,none⟩else some ⟨g,(k+1)*3,none⟩) (notes.length - (k+1)) (hc - (k+1))) 3 (notes.drop (k+1)).length ((notes.drop (k+1)).flatMap jh):=by
   have h:=zbb ax.src (show k+1<=notes.length by omega);rw [Nat.zero_add] at h
   by_cases hck:hc=k+1
   ·rw [if_pos hck]
    have a6:notes.length=k+1:=by omega
    have hd:notes.drop (k+1)=[]:=List.drop_eq_nil_of_le (by omega);rw [hd,a6,Nat.sub_self];exact⟨rfl,.inr ⟨g,0,_,rfl,Nat.zero_le _,λj u hu=>by simp at hu⟩⟩
   rw [if_neg hck];exact h
  generalize(if hc=k+1 then some (⟨g,0,none⟩:Addr)else some ⟨g,(k+1)*3,none⟩)=sp at ac⊢
  have ai:=ax.clip k (by omega) (by simp);have az:(notes.drop (k+1)).length=notes.length - (k+1):=by rw [U3]
  obtain⟨v',W8,ag,aa,al,af⟩:=Qa zlG ai ac (Zp _) (by omega) 120
  have ap:(notes.flatMap jh).take (k*3)++(notes.drop (k+1)).flatMap jh=(notes.eraseIdx k).flatMap jh:=by
   rw [List.eraseIdx_eq_take_drop_succ,U5]
   congr 1
   conv=>lhs;rw [← List.take_append_drop k notes,U5]
   rw [List.take_append_of_le_length (by rw [xZ,N7];omega),List.take_of_length_le (by rw [xZ,N7];omega)]
  have au:k+(notes.drop (k+1)).length=(notes.eraseIdx k).length:=by rw [List.length_eraseIdx_of_lt hk];omega
  rw [ap,au] at aa;have aw:g≠B:=hR.ne_blk hB (by decide) rfl;have aj:=(hB.below ar hB.lt).kept (al.block B (by have:=hB.lt;omega) (λe=>aw (by simpa [Value.ownBlock] using e.symm)))
  have a5:=k0.kept (al.block w.heap.size (by omega) (λe=>by have:w.heap.size=g:=(by simpa [Value.ownBlock] using e);omega))
  have a2:=k1.kept (al.block (w.heap.size+1) (by omega) (λe=>by have:w.heap.size+1=g:=(by simpa [Value.ownBlock] using e);omega))
  obtain⟨sa,sc,rfl⟩:=aa.shape;have ad:w.heap.size≠B:=by have:=hB.lt;omega
  have ak:w.heap.size+1≠B:=by have:=hB.lt;omega
  have a7:=aj.lt;replace aa:=hid aa;replace af:=hid af;replace ag:=hid ag;replace ac:=hid ac;replace ap:=hid ap;replace au:=hid au;replace az:=hid az;replace hx:=hid hx;rw [← hW];refine zc rfl (λK hK=>?_);refine zw rfl _ _ _ rfl rfl rfl ag.out ?_;unfold wpList;refine hK.out _ _ (λ_=>⟨aj,trivial⟩) ?_;clear hK K e0
  refine Wb ?_
  have a3:=aj.frozen;have a4:=aj.cell;refine zc rfl (λK hK=>?_);go_wp2;refine hK.out _ _ (λhh=>absurd rfl hh) ?_;clear hK K a3 a4;refine ze ?_;have am:=a5.other (p:=⟨B,1,none⟩) ad (.slice sa (notes.eraseIdx k).length sc);have a0:=a2.other (p:=⟨B,1,none⟩) ak (.slice sa (notes.eraseIdx k).length sc);have c0:=am.cell;have f0:=am.frozen;have l0:=am.lt;have c1:=a0.cell;have rr:=(((am.set (o:=0) (.int .u32 (x.1:Nat))).set (o:=1) (.int .i64 x.2.1)).set (o:=2) (.string (bs x.2.2))).cell
  have an:∀q,(Value.slice sa (notes.eraseIdx k).length sc).ownBlock=some q->q=g∨q=W.heap.size:=λq hq=>by
   have:=af.out;rw [hq] at this
   rcases this with h|h
   ·left;simpa [Value.ownBlock] using h
   right;simpa using h
  have ay:ow g=t:=o2 g rfl;replace o2:=hid o2;replace an:=hid an;go_wp2;refine bodyPost_ret (v:=.tuple #[zi1 x,.int .i64 0]) (by simp [results,Tryz.results99,go_sem,rr];rfl) rfl ⟨rfl,ow.ext W.heap.size (λq=>(Value.slice sa (notes.eraseIdx k).length sc).ownBlock=some q) t,?_,?_⟩
  ·have s1:zt t ow w ow W8:=(zt.of_below t ow ar).trans (zt.grown al (λq hq=>by
    have:g=q:=by simpa [Value.ownBlock] using hq
    rw [← this,ay];exact Sub.rfl' t))
   have s2:=s1.trans (zt.setCell W8 ⟨B,1,none⟩ (.slice sa (notes.eraseIdx k).length sc) (by rw [o1];exact Sub.rfl' t));exact(((s2.setNew ⟨w.heap.size,0,none⟩ _ (N0 _)).setNew ⟨w.heap.size,1,none⟩ _ (N0 _)).setNew ⟨w.heap.size,2,none⟩ _ (N0 _)).own (λq hq=>Own.ext_old (by omega))
  have ao:∀q,(Value.slice sa (notes.eraseIdx k).length sc).ownBlock=some q->q≠B/\q≠w.heap.size:=λq hq=>by
   rcases an.out q hq with rfl|rfl
   ·exact⟨aw,by omega⟩
   have:=hB.lt;exact⟨by omega,by omega⟩
  refine⟨_,(((aj.set (o:=1) (.slice sa (notes.eraseIdx k).length sc)).other (p:=⟨w.heap.size,0,none⟩) (Ne.symm ad) _).other (p:=⟨w.heap.size,1,none⟩) (Ne.symm ad) _).other (p:=⟨w.heap.size,2,none⟩) (Ne.symm ad) _,aa.out.kept (λq hq=>?_),?_,λq hq=>?_⟩
  ·have h1:=ao q hq
   rw [N4 _ _ _ _ h1.2,N4 _ _ _ _ h1.2,N4 _ _ _ _ h1.2,N4 _ _ _ _ h1.1]
  ·rw [Own.ext_old (by have:=hB.lt;omega),o1]
  rcases an.out q hq with rfl|rfl
  ·rw [Own.ext_old (by omega),ay]
  rw [Own.ext_new (N0 _) hq]
 rw [zfq hp]
 have hb:(decide (0<=p)&& decide (p<(notes.length:Int)))=false:=by simpa using hp
 rw [hb] at ae;have ah:=hB.alloc (.cells #[.int .u32 0,.int .i64 0,.string ⟨#[]⟩] 178);have kr:Blk (w.alloc (.cells #[.int .u32 0,.int .i64 0,.string ⟨#[]⟩] 178)) w.heap.size #[.int .u32 0,.int .i64 0,.string ⟨#[]⟩] 178:=Blk.new rfl;have rr:=(((kr.set (o:=0) (.int .u32 0)).set (o:=1) (.int .i64 0)).set (o:=2) (.string ⟨#[]⟩)).cell;have e0:=kr.cell;have f0:=kr.frozen;have l0:=kr.lt;replace ae:=hid ae;replace hb:=hid hb;replace h0:=hid h0;clear hB hR o2
 go_enter func99,ntmps99
 go_wp2_with fail
 refine(ae.out _ ah).mono ?_;rintro e w1⟨rfl,aq⟩;obtain rfl:=aq.symm;go_wp2;exact bodyPost_ret (v:=.tuple #[zi1 (0,0,[]),.int .i64 2]) (by simp [results,Tryz.results99,go_sem,e0];rfl) rfl ⟨rfl,ow,zt.of_below t ow (pbx),(jT.loc B last notes t).below h0.out (pbx)⟩
