/- PARTS OF THE PROOF. -/
import Derived.Test.YtofppfoioodblaaGreatDoorDA24
set_option maxRecDepth 8000
set_option maxHeartbeats 4000000
open Go.Proofs.Tryz
namespace Go.Proofs.YtofppfoioodblaaGreatDoor
section
open Go
theorem zau {K V:Type} [DecidableEq K](k:K)(x:V):∀(l:List (K×V)),zH k l=none->put k x l=l++ [(k,x)]
 | [],_=>rfl
 |(a,b)::l,h=>by
  unfold zH at h
  by_cases hk:k=a
  ·rw [if_pos hk] at h;cases h
  rw [if_neg hk] at h
  unfold put;rw [if_neg hk,zau k x l h,List.cons_append]
theorem zav(j:Nat)(d:List UInt8)(c:Nat):∀(k t:Nat),(c<t∨t+k<=c)->zH ((j:Int),c+1) ((jw j d t k).map λm=>(m.1,m))=none
 |0,_,_=>rfl
 |k+1,t,h=>by
  rw [x8,List.map_cons];unfold zH;rw [if_neg (λe=>by have:=congrArg Prod.snd e;simp only at this;omega)];exact zav j d c k (t+1) (by omega)
variable {d:List UInt8}{k room j t a:Nat}{L:zQ}{m:zq}
theorem VZ.broadcast(h:VZ d k L (room+200) j t a m)(hj:j<16)(hd:d.length<=100)(ha:a<100000)(hw:a - t<1000):
 (zG m d).2.2=0/\VZ d k L room j t (a+1) (zG m d).1:=by
 have hr:zz (((j:Int),a+1),d)=true:=by simp only [zz,Bool.and_eq_true,decide_eq_true_eq];omega
 have ad:m.acc.length=a:=by rw [h.acc,yx]
 have ai:=za4 hr
 have ab:([109] ++(yj [(((j:Int),a+1),d)]).1:List UInt8).length=11+d.length:=by
  rw [ai];simp only [N1,List.length_cons,List.length_nil,xT];omega
 obtain⟨r,ae⟩:∃r:List UInt8,[109] ++(yj [(((j:Int),a+1),d)]).1=r:=⟨_,rfl⟩;rw [ae] at ab;have af:=h.room;have hk:=YE (n:=m) h.crashed h.isCut h.cap (d:=r) (by omega) (by omega) false;have aj:=h.ta;have ag:(zJ r).1.length=20+d.length:=by rw [yw (by omega)];omega
 obtain⟨m1,aa⟩:∃m1,m1=({m with store:={m.store with log:=m.store.log++(zJ r).1}} :zq):=⟨_,rfl⟩;rw [← aa] at hk
 have ac:zf3 m.pool (((j:Int),a+1),d)=({m.pool with waits:=m.pool.waits++ [(((j:Int),a+1),(((j:Int),a+1),d))] },0):=by
  unfold zf3;have h1:zH ((j:Int),a+1) m.pool.waits=none:=by rw [h.pool.waits];exact zav j d a _ _ (.inr (by omega))
  rw [if_neg (by rw [hr];simp),if_neg (by rw [h1,h.pool.done a];simp;omega),if_neg (by rw [h.pool.waits,List.length_map,yx];omega),zau _ _ _ h1]
 have hb:zG m d=(jR (a+1) {m1 with acc:=m.acc++ [(((j:Int),a+1),d)] },(((j:Int),a+1),d),0):=by
  unfold zG;rw [if_neg (by rw [h.up];simp),h.ide,ad,if_neg (by rw [hr];simp),ae,hk,if_neg (by simp)]
 have ah:jR (a+1) {m1 with acc:=m.acc++ [(((j:Int),a+1),d)] } ={m1 with acc:=m.acc++ [(((j:Int),a+1),d)],pool:={m.pool with waits:=m.pool.waits++ [(((j:Int),a+1),(((j:Int),a+1),d))] },offered:=a+1} :=by
  have ho:m1.offered=a:=by rw [aa];exact h.offered
  have hp:m1.pool=m.pool:=by rw [aa]
  unfold jR;simp only;rw [ho,U6 (by omega),ad,Nat.sub_self];simp only [List.getElem?_cons_zero];rw [hp,ac,if_pos rfl]
  cases a with
  |zero=>rfl
  |succ a=>
   unfold jR;simp only;rw [List.getElem?_eq_none (by simp;omega)]
 rw [hb];refine⟨rfl,?_⟩
 show VZ d k L room j t (a+1) (jR (a+1) _)
 rw [ah]
 refine⟨by rw [aa];exact h.ide,by rw [aa];exact h.bad,by rw [aa];exact h.up,by rw [aa];exact h.wanted,by rw [aa];exact h.kno,by rw [aa];exact h.vot,by rw [aa];exact h.applied,by rw [aa];exact h.loc,
  by rw [aa];exact h.crashed,by rw [aa];exact h.isCut,by rw [aa];exact h.cap,?_,?_,rfl,⟨?_,h.pool.done⟩,by omega⟩
 ·rw [aa]
  show(m.store.log++_).length+room<=_
  rw [N1,ag];omega
 ·show m.acc++_=_
  rw [h.acc,YC,Nat.zero_add];rfl
 show m.pool.waits++_=_
 rw [h.pool.waits,show a+1 - t=(a - t)+1 by omega,YC,List.map_append,show t+(a - t)=a by omega];rfl
def upd(a:Nat->Nat)(i:Nat):Nat->Nat:=λj=>if i=j then a j+1 else a j
theorem VR {v:Int}{s:StD}{a:Nat->Nat}{n k G room:Nat}{tk:List Nat}{log2:List zx}{W:zf}{ns:List zq}(h:Zu (λ_ _ _ _=>True) v s d a n k G (room+200) tk log2 W ns)(hn:n<=16)(hd:d.length<=100){i:Nat}(hi:i<n)(ha:∀j,a j<1000):
 (doW s W ⟨1,i,0,0,0,d⟩).2=0/\∃ns',Zu (λ_ _ _ _=>True) v s d (upd a i) n k G room tk log2 (doW s W ⟨1,i,0,0,0,d⟩).1 ns':=by
 obtain⟨mi,am,aa⟩:=h.node hi;obtain⟨cnt,log,hc⟩:=h.nodes;obtain⟨ss,ld,tr,hW,hq,ai,ah, -⟩:=h.is;have ag:=h.len;obtain⟨al,ak⟩:=(hc i mi am).broadcast (by omega) hd (by have:=ha i;omega) (by have:=ha i;omega);have af:i<ss.length:=by omega
 obtain⟨si,ac⟩:∃si,ss[i]?=some si:=⟨_,N3 af⟩;have ab:jj W i=si:=by rw [hW.seat,ac];rfl
 have ad:vz W s ⟨1,i,0,0,0,d⟩=(setNode (qk W i) i (zG mi d).1,0):=by
  unfold vz;simp only;rw [if_pos trivial,Int.toNat_natCast,aa,al]
 have hV:IsW (setNode (qk W i) i (zG mi d).1) (ns.set i (zG mi d).1) (ss.set i {si with stale:=true}) ld [] tr:=by
  refine⟨by show W.nodes.set i _=_;rw [hW.nodes],?_,hW.leads,hW.notes,hW.hurt,hW.trace⟩
  show W.seats.set i {jj W i with stale:=true} =_
  rw [ab,hW.seats]
 have ae:xz (ss.set i {si with stale:=true}) i:=λk hk=>by rw [List.getElem?_set_ne (Ne.symm hk)];exact hq k
 have hT:=zab hV ae (by simpa using(by omega:i<ns.length)) (List.getElem?_set_self af) rfl (List.getElem?_set_self (by omega));rw [List.set_set] at hT
 have aj:doW s W ⟨1,i,0,0,0,d⟩=(xp (setNode (qk W i) i (zG mi d).1),0):=by
  unfold doW;rw [if_neg (by simp),if_neg (by rw [hW.nodes];simp;omega)];simp only;rw [ad];simp
 rw [aj];refine⟨rfl,_,⟨⟨_,ld,_,hT,?_,by simpa using ai,λj=>?_,trivial⟩,by simpa using ag,h.tks,⟨cnt,log,λj m hm=>?_⟩,λj=>?_⟩⟩
 ·exact zac hq i ac (zG mi d).1
 ·by_cases hj:i=j
  ·subst hj
   rw [List.getElem?_set_self af];have:=ah i;rw [ac] at this;exact this
  rw [List.getElem?_set_ne hj];exact ah j
 ·by_cases hj:i=j
  ·subst hj
   rw [List.getElem?_set_self (by omega)] at hm
   cases hm
   unfold upd;rw [if_pos rfl];exact ak
  rw [List.getElem?_set_ne hj] at hm
  unfold upd;rw [if_neg hj];have hx:=hc j m hm;exact⟨hx.ide,hx.bad,hx.up,hx.wanted,hx.kno,hx.vot,hx.applied,hx.loc,hx.crashed,hx.isCut,hx.cap,by have:=hx.room;omega,hx.acc,hx.offered,hx.pool,hx.ta⟩
 unfold upd
 have:=ha j
 split<;>omega
theorem ziX(v:Int)(s:StD)(d:List UInt8)(n:Nat):Zu (λ_ _ _ _=>True) v s d (λ_=>0) n 0 0 262144 (List.replicate 16 0) [] (Zn n v 262144 s) ((List.range n).map λ(i:Nat)=>zhq i v 262144 [] s):=by
 refine⟨⟨List.replicate n yX,[],[],⟨rfl,rfl,rfl,rfl,rfl,rfl⟩,λi=>?_,by simp,λj=>?_,trivial⟩,by simp,by simp,⟨0,[],λj m hm=>?_⟩,λj=>by omega⟩
 ·rw [List.getElem?_replicate];split<;>exact⟨rfl,rfl⟩
 ·rw [List.getElem?_replicate];split<;>exact N0 _
 rw [List.getElem?_map] at hm
 obtain⟨i,hi,rfl⟩:=Option.map_eq_some_iff.1 hm;obtain⟨aa,rfl⟩:=N6.1 hi;rw [List.getElem_range]
 have ht:xx (List.replicate 16 0) j=0:=by
  unfold xx;rw [List.getElem?_replicate];split<;>rfl
 rw [ht];exact⟨rfl,rfl,rfl,rfl,λq _=>rfl,λq _=>rfl,rfl,rfl,rfl,rfl,rfl,by show 0+262144<=_;omega,rfl,rfl,⟨rfl,λc=>by show(zH _ []).isSome=_;simp [zH]⟩,N0 _⟩
def QL(s:StD)(d:List UInt8)(W:zf)(l:List Nat):zf:=l.foldl (λW (i:Nat)=>(doW s W ⟨1,i,0,0,0,d⟩).1) W
theorem zaw(s:StD)(d:List UInt8)(W:zf)(l:List Nat)(i:Nat):QL s d W (l++ [i])=(doW s (QL s d W l) ⟨1,i,0,0,0,d⟩).1:=by
 unfold QL;rw [List.foldl_append];rfl
def ZI(l:List Nat):Nat->Nat:=λj=>l.count j
theorem zgS(l:List Nat)(i:Nat):ZI (l++ [i])=upd (ZI l) i:=by
 funext j
 unfold ZI upd;rw [List.count_append]
 by_cases h:i=j
 ·subst h;rw [if_pos rfl];simp
 rw [if_neg h,List.count_singleton]
 have:(i==j)=false:=by simpa using h
 rw [this];rfl
theorem zlJ {n:Nat} :∀(l:List Nat),(∀i∈l,i<n)->Qv (ZI l) n=l.length:=by
 intro l
 induction l with
 |nil=>
  intro _
  have:∀m,Qv (ZI []) m=0:=by
   intro m
   induction m with
   |zero=>rfl
   |succ m ih=>unfold Qv;rw [ih];rfl
  exact this n
 |cons i l ih=>
  intro h
  have h1:=zbs (f:=ZI l) (g:=ZI (i::l)) (i:=i) (c:=1) (by unfold ZI;rw [List.count_cons];simp) (λj hj=>by
   unfold ZI;rw [List.count_cons];have:(i==j)=false:=by simpa using λe=>hj e.symm
   rw [this];rfl) n (h i (List.mem_cons_self ..))
  rw [h1,ih (λj hj=>h j (U7 _ hj)),List.length_cons]
theorem zkA {P:List Nat->Prop}(h0:P [])(h1:∀l i,P l->P (l++ [i])):∀l,P l:=λl=>by
 have:∀k,k<=l.length->P (l.take k):=by
  intro k
  induction k with
  |zero=>intro _;simpa using h0
  |succ k ih=>
   intro hk;rw [List.take_add_one,N3 (by omega)];exact h1 _ _ (ih (by omega))
 have:=this l.length (N0 _)
 rwa [List.take_length] at this
theorem Qd {v:Int}{s:StD}{n:Nat}(hn:n<=16)(hd:d.length<=100):∀(l:List Nat),(∀i∈l,i<n)->l.length<=100->∃ns,Zu (λ_ _ _ _=>True) v s d (ZI l) n 0 0 (262144 - 200*l.length) (List.replicate 16 0) [] (QL s d (Zn n v 262144 s) l) ns:=by
 refine zkA ?_ ?_
 ·intro _ _
  exact⟨_,ziX v s d n⟩
 intro l i ih hl hlen
 simp only [N1,U2] at hlen⊢;obtain⟨ns,hC⟩:=ih (λj hj=>hl j (List.mem_append.2 (.inl hj))) (by omega);rw [show 262144 - 200*l.length=(262144 - 200*(l.length+1))+200 by omega] at hC;obtain⟨-,ab,aa⟩:=VR hC hn hd (hl i (by simp)) (λj=>by have:=List.count_le_length (a:=j) (l:=l);unfold ZI;omega);rw [zaw,zgS];exact⟨ab,aa⟩
theorem zlK {v:Int}{s:StD}{n:Nat}(hn:n<=16)(hd:d.length<=100){l:List Nat}{i:Nat}(hl:∀j∈l,j<n)(hi:i<n)(hlen:l.length<100):(doW s (QL s d (Zn n v 262144 s) l) ⟨1,i,0,0,0,d⟩).2=0:=by
 obtain⟨ns,hC⟩:=Qd (v:=v) (s:=s) hn hd l hl (by omega);rw [show 262144 - 200*l.length=(262144 - 200*(l.length+1))+200 by omega] at hC;exact(VR hC hn hd hi (λj=>by have:=List.count_le_length (a:=j) (l:=l);unfold ZI;omega)).1
theorem ziY {v:Int}{s:StD}{n:Nat}(hv:known v=true)(hn:n<=16)(hd:d.length<=100){l:List Nat}(hl:∀j∈l,j<n)(hlen:l.length<=50){r:Nat}(hr:l.length<r):
 ∃g W',YQ s r g (QL s d (Zn n v 262144 s) l) W' true/\zc2 (λ_ _ _ _=>True) v s d (ZI l) n 0 W'/\g<=l.length*1296:=by
 obtain⟨ns,hC⟩:=Qd (v:=v) (s:=s) hn hd l hl (by omega);have ht:∀j,xx (List.replicate 16 0) j=0:=λj=>by unfold xx;rw [List.getElem?_replicate];split<;>rfl
 have aa:zk7 (ZI l) (List.replicate 16 0) n=l.length:=by
  unfold zk7;rw [Jq (g:=ZI l) n (λj _=>by rw [ht];rfl)];exact zlJ l hl
 have hz:Qv (xx (List.replicate 16 0)) n=0:=by
  have:∀m,Qv (xx (List.replicate 16 0)) m=0:=by
   intro m
   induction m with
   |zero=>rfl
   |succ m ih=>unfold Qv;rw [ih,ht]
  exact this n
 exact zc3 (λ_ _ _ _ _ _ _ _ _ _ _ _=>trivial) hv hn hd r l.length _ ⟨⟨0,0,_,_,[],ns,hC,⟨by rw [hz];rfl,λi _ _=>by rw [ht];rfl⟩,aa,by omega,by omega,by omega⟩⟩ hr
theorem zc2.logs {P:ziV}{v:Int}{s:StD}{a:Nat->Nat}{n:Nat}{W:zf}(h:zc2 P v s d a n 0 W):∃L:zQ,L.log.length=Qv a n/\(∀i,i<n->(∀j,j<n->j≠i->a j=0)->L.log=jw i d 0 (a i))/\W.nodes.length=n/\∀i,i<n->(zn W i).loc=L:=by
 obtain⟨k,G,room,tk,log2,ns,hC,hL,hp, -⟩:=h.ex;obtain⟨cnt,log,hc⟩:=hC.nodes
 have aa:∀j,j<n->xx tk j=a j:=λj hj=>by
  obtain⟨m,hm, -⟩:=hC.node hj;have h1:a j - xx tk j=0:=YR n hp j hj;have h2:=(hc j m hm).ta;omega
 refine⟨Jw v s tk cnt log log2,?_,λi hi h0=>?_,hC.wn,λi hi=>?_⟩
 ·show log2.length=_
  rw [hL.len];exact Jq n aa
 ·show log2=_
  rw [hL.one i hi h0,aa i hi]
 obtain⟨m,hm,hn⟩:=hC.node hi
 rw [hn];exact(hc i m hm).loc
end
section
open Go Go.RowKit
def zax(w:World)(e:TypeId)(sz:Nat)(v:Value)(n:Nat)(xs:List Value):Prop:=
 xs.length=n*sz/\((v=.slice none 0 0/\n=0)∨
  ∃g cap cur,v=.slice (some ⟨g,0,none⟩) n cap/\w.heap[g]?=some (.cells cur e (0,0))/\n<=cap/\cap<=maxLen/\cap*sz<=cur.size/\cur.toList.take (n*sz)=xs)
theorem Row.wideV {w:World}{e:TypeId}{sz:Nat}{v:Value}{n:Nat}{xs:List Value}(h:Row w e sz v n xs):zax w e sz v n xs:=by
 refine⟨h.1,?_⟩
 rcases h.2 with h|⟨g,cap,cur,rfl, -,hg,hc,hm,hs,ht⟩
 ·exact .inl h
 exact .inr ⟨g,cap,cur,rfl,hg,hc,hm,by omega,by simpa using ht⟩
section
variable {w w':World}{e:TypeId}{sz:Nat}{v:Value}{n:Nat}{xs:List Value}
theorem zax.lt(h:zax w e sz v n xs){g:Nat}(hg:v.ownBlock=some g):g<w.heap.size:=by
 rcases h.2 with⟨rfl,_⟩|⟨g',cap,cur,rfl,hgg,_⟩
 ·cases hg
 cases hg;exact(N5.1 hgg).1
theorem zax.kept(h:zax w e sz v n xs)(hb:∀g,v.ownBlock=some g->w'.heap[g]?=w.heap[g]?):zax w' e sz v n xs:=by
 refine⟨h.1,?_⟩
 rcases h.2 with h2|⟨g,cap,cur,rfl,hg,r⟩
 ·exact .inl h2
 exact .inr ⟨g,cap,cur,rfl,(hb g rfl).trans hg,r⟩
theorem zax.type(h:zax w e sz v n xs){g:Nat}(hg:v.ownBlock=some g):∃cur,w.heap[g]?=some (.cells cur e (0,0)):=by
 rcases h.2 with⟨rfl,_⟩|⟨g',cap,cur,rfl,hgg,_⟩
 ·cases hg
 cases hg;exact⟨cur,hgg⟩
theorem zax.ne_blk(h:zax w e sz v n xs){B:Nat}{cs:Array Value}{T:TypeId}(hB:Blk w B cs T)(hT:e≠T){g:Nat}(hg:v.ownBlock=some g):g≠B:=by
 rintro rfl;obtain⟨aa,hc⟩:=h.type hg;have:=hc.symm.trans hB;simp at this
 exact hT this.2
theorem zax.shape(h:zax w e sz v n xs):∃a c,v=.slice a n c:=by
 rcases h.2 with⟨rfl,rfl⟩|⟨g,cap,cur,rfl,_⟩
 ·exact⟨_,_,rfl⟩
 exact⟨_,_,rfl⟩
theorem zax.src(h:zax w e sz v n xs):Src w v sz n xs:=by
 refine⟨h.1,?_⟩
 rcases h.2 with h0|⟨g,cap,cur,rfl,hg,hc,_,hs,ht⟩
 ·exact .inl h0
 refine .inr ⟨g,0,cap,rfl,hc,λj u hu=>?_⟩
 have hj:=(N6.1 hu).1;rw [h.1] at hj;have hB:Blk w g cur e:=hg;rw [Nat.zero_add,hB.cell,← hu,← ht,List.getElem?_take,if_pos hj];simp
end
theorem zax.clip {w:World}{e:TypeId}{sz:Nat}{a:Option Addr}{n c:Nat}{xs:List Value}(h:zax w e sz (.slice a n c) n xs)(k:Nat)(hk:k<=n)(ha:a≠none):zax w e sz (.slice a k k) k (xs.take (k*sz)):=by
 have hm:=Nat.mul_le_mul_right sz hk
 rcases h.2 with⟨h0,h1⟩|⟨g,cap,cur,hv,hg,hc,hmx,hs,ht⟩
 ·simp at h0;exact absurd h0.1 ha
 cases hv
 have aa:=Nat.mul_le_mul_right sz hc;refine⟨by rw [N7,h.1];omega,.inr ⟨g,k,cur,rfl,hg,N0 _,by omega,by omega,?_⟩⟩;rw [← ht,List.take_take,Nat.min_eq_left hm]
theorem Qe {P:Program}{t e:TypeId}{size bytes:Nat}{z:Value}(T:Yf P t e size bytes z){w:World}{v src:Value}{n m:Nat}{xs news:List Value}
 (hv:zax w e size v n xs) (hs:Src w src size m news) (h1:∀u∈news,u.oneCell'=true) (hb:n+m<=1073741824) (ty:TypeId):
 ∃v' w',(Builtin.append_ #[t,t] ty #[v,src]).run P w=.ok v' w'/\zax w' e size v' (n+m) (xs++news)/\w.grownBy w' v.ownBlock/\(v'.ownBlock=v.ownBlock∨v'.ownBlock=some w.heap.size):=by
 obtain⟨i,hi,ak,ad,am⟩:=info_parts T.info
 have ai:(n+m)*bytes<=140737488355328:=by
  have:=Nat.mul_le_mul hb T.small;omega
 rcases hv.2 with⟨rfl,rfl⟩|⟨g,cap,cur,rfl,hg,hnc,hcm,hcs,htake⟩
 ·have hx:xs=[]:=N9 (by simpa using hv.1)
  subst hx;obtain⟨v',w',h2,h3,h4,h5⟩:=zM T (jc w e size) hs h1 hb ty;exact⟨v',w',h2,h3.wideV,h4,h5⟩
 rcases hs.2 with⟨rfl,rfl⟩|⟨b,off,sc,rfl,_,hr⟩
 ·have hn:news=[]:=N9 (by simpa using hs.1)
  subst hn;refine⟨.slice (some ⟨g,0,none⟩) n cap,w,?_,by simpa using hv,⟨rfl,rfl,rfl,N0 _,λ_ _ _=>rfl⟩,.inl rfl⟩;simp [Builtin.append_,run_underlying T.under,sizeOf,typeInfo,hi,Builtin.lenOf,Builtin.firstCells,loadCells,hnc,storeCells]
 have ah:∀j,(⟨b,off,none⟩:Addr).add j=⟨b,off+j,none⟩:=λj=>by unfold Addr.add;split<;>simp_all
 have hl:news.length=m*size:=hs.1;have ab:(xs++news).length=(n+m)*size:=by rw [N1,hv.1,hl,Nat.add_mul]
 have aa:∀j u,news[j]?=some u->w.cell? ((⟨b,off,none⟩:Addr).add j)=some u:=λj u hu=>by rw [ah];exact hr j u hu
 by_cases hroom:n+m<=cap
 ·have al:=Nat.mul_le_mul_right size hroom
  rw [Nat.add_mul] at al;have ag:n*i.size+news.length<=cur.size:=by rw [ad,hl];omega
  have ac:=run_append_room (P:=P) w t ty e i T.under hi g n cap cur hg ⟨b,off,none⟩ m sc news (by rw [ad];exact hl) aa h1 hroom ag;refine⟨_,_,ac,⟨ab,.inr ⟨g,cap,_,rfl,setRow_heap w g cur _ e _ hg,hroom,hcm,?_,?_⟩⟩,⟨rfl,rfl,rfl,by simp,λk _ hk=>setRow_other w g k _ (λe=>hk (by simp [Value.ownBlock,e]))⟩,.inl rfl⟩
  ·simp only [List.size_toArray,N1,N7,U3,Array.length_toList,ad]
   omega
  rw [ad,htake,← ab]
  exact List.take_left
 have ae:∀j u,xs[j]?=some u->w.cell? ((⟨g,0,none⟩:Addr).add j)=some u:=λj u hu=>by
  have hj:=(N6.1 hu).1;rw [hv.1] at hj;have hB:Blk w g cur e:=hg;have ha:(⟨g,0,none⟩:Addr).add j=⟨g,0+j,none⟩:=by unfold Addr.add;split<;>simp_all
  rw [ha,Nat.zero_add,hB.cell,← hu,← htake,List.getElem?_take,if_pos hj];simp
 have ac:=run_append_grow (P:=P) w t ty e i z T.under hi ak ⟨g,0,none⟩ n cap xs (by rw [ad];exact hv.1) ae ⟨b,off,none⟩ m sc news (by rw [ad];exact hl) aa (by omega) (by omega) (growslice_fits (by omega) (by rw [am];omega));have aj:=grownCap_ge w (n+m) cap e;have af:grownCap w (n+m) cap e<=maxLen:=grownCap_le_maxLen w (n+m) cap e (by unfold maxLen;omega);refine⟨_,_,ac,⟨ab,.inr ⟨w.heap.size,_,_,rfl,heap_alloc_new w.drew _,aj,af,?_,?_⟩⟩,⟨rfl,rfl,rfl,by simp,λk hk _=>((N2 w.drew.heap.size w.drew).alloc (N0 _) _).block k hk⟩,.inr rfl⟩
 ·have an:=Nat.mul_le_mul_right size aj
  rw [Nat.add_mul] at an;simp only [Array.size_append,List.size_toArray,size_zeroCells,T.cells,hl,hv.1];rw [Nat.sub_mul,Nat.add_mul];omega
 simp only [Array.toList_append,List.append_assoc]
 rw [← List.append_assoc,← ab];exact List.take_left
end
section
open Go Go.RowKit
theorem ziZ(w:World)(e:TypeId)(size:Nat):Row (w.alloc (.cells #[] e)) e size (.slice (some ⟨w.heap.size,0,none⟩) 0 0) 0 []:=
 ⟨by simp,.inr ⟨w.heap.size,0,#[],rfl,Nat.zero_le _,World.alloc_heap_new w _,N0 _,Nat.zero_le _,by simp,by simp⟩⟩
def je(x:(Nat×Int×List UInt8)):List Value:=[.int .u32 x.1,.int .i64 x.2.1,.string (bs x.2.2)]
theorem xU(l:List (Nat×Int×List UInt8)):(l.flatMap je).length=l.length*3:=by
 induction l with
 |nil=>rfl
 |cons m l ih=>simp [List.flatMap_cons,je,ih];omega
def jK(B:Nat)(last:Nat)(notes:List (Nat×Int×List UInt8))(t:List Nat)(ow:Own)(W:World):Prop:=
 ∃v,Blk W B #[.int .u32 last,v] 122/\zax W 178 3 v notes.length (notes.flatMap je)/\ow B=t/\∀g,v.ownBlock=some g->ow g=t
theorem jK.loc(B last:Nat)(notes:List (Nat×Int×List UInt8))(t:List Nat):yC t (jK B last notes t):=by
 rintro ow ow' W W'⟨lv,hB,hR,o1,o2⟩ hs hk;have kB:=hk B hB.lt (by rw [o1];exact Sub.rfl' t);have kR:∀g,lv.ownBlock=some g->ow' g=ow g/\W'.heap[g]?=W.heap[g]?:=λg hg=>hk g (hR.lt hg) (by rw [o2 g hg];exact Sub.rfl' t)
 exact⟨lv,hB.kept kB.2,hR.kept (λg hg=>(kR g hg).2),kB.1.trans o1,λg hg=>(kR g hg).1.trans (o2 g hg)⟩
def Js(B last:Nat)(notes:List (Nat×Int×List UInt8))(t:List Nat)(ow:Own)(w:World)(v:Value)(e:Ending)(w':World):Prop:=
 e=.returned v/\∃ow',zp t ow w ow' w'/\jK B last notes t ow' w'
end
open Go Go.RowKit Go.Shelf Go.Extern.Stop Go.Stop Go.Extern
attribute [local go_sem] Oper.semAt_some zB zo
theorem zlL:Yf prog 120 178 3 32 (.agg #[.int .u32 0,.int .i64 0,.string ⟨#[]⟩]):=⟨Tryz.underlying120,by kernel_rfl,rfl,by decide,by decide⟩
theorem Zv(l:List (Nat×Int×List UInt8)):∀u∈l.flatMap je,u.oneCell'=true:=by
 intro u hu;obtain⟨m,_,hm⟩:=List.mem_flatMap.1 hu;simp only [je,List.mem_cons,List.mem_nil_iff,or_false] at hm
 rcases hm with rfl|rfl|rfl<;>rfl
theorem zi0(w:World):Calls prog 23 #[] w λe w'=>e=.returned (.pointer (some ⟨w.heap.size,0,none⟩))/\w'=w.alloc (.cells #[.int .u32 0,.slice none 0 0] 122):=by
 go_enter func23,ntmps23
 go_wp2;go_ret
 exact⟨rfl,rfl⟩
theorem zkB(fb last n c:Nat)(a:Option Addr)(p:Int)(w:World)(hB:Blk w fb #[.int .u32 last,.slice a n c] 122):Calls prog 146 #[.pointer (some ⟨fb,0,none⟩),.int .i64 p] w λe w'=>
 e=.returned (.bool (decide (0<=p)&& decide (p<(n:Int))))/\w'=w:=by
 have e0:=hB.cell
 cases h0:decide (0<=p)
 ·go_enter func146,ntmps146
  go_wp2;go_ret
  exact⟨rfl,rfl⟩
 cases h1:decide (p<(n:Int))
 ·go_enter func146,ntmps146
  go_wp2;go_ret
  exact⟨rfl,rfl⟩
 go_enter func146,ntmps146
 go_wp2;go_ret
 exact⟨rfl,rfl⟩
theorem zgT(fb last:Nat)(v:Value)(hl:last<4294967295)(w:World)(hB:Blk w fb #[.int .u32 last,v] 122):Calls prog 206 #[.pointer (some ⟨fb,0,none⟩)] w λe w'=>
 e=.returned (.int .u32 (last+1:Nat))/\w'=w.setCell ⟨fb,0,none⟩ (.int .u32 (last+1:Nat)):=by
 have e0:=hB.cell;have f0:=hB.frozen;have l0:=hB.lt;have hw:IntKind.u32.wrap ((last:Int)+1)=((last+1:Nat):Int):=by rw [IntKind.wrap_u32];omega
 have r0:=(hB.set (o:=0) (.int .u32 (last+1:Nat))).cell
 go_enter func206,ntmps206
 go_wp2;go_ret
 exact⟨rfl,rfl⟩
theorem zi1(B last:Nat)(notes:List (Nat×Int×List UInt8))(t:List Nat)(ow:Own)(src:Value)(l:List (Nat×Int×List UInt8))(w:World)(h:jK B last notes t ow w)(hm:Src w src 3 l.length (l.flatMap je))(hl:notes.length+l.length<=1073741824):
 Calls prog 207 #[.pointer (some ⟨B,0,none⟩),src] w (Js B last (notes++l) t ow w (.tuple #[])):=by
 obtain⟨lv,hB,hR,o1,o2⟩:=h;have e0:=hB.cell;have l0:=hB.lt
 obtain⟨ma,mm,mc,rfl⟩:∃a n c,src=.slice a n c:=by
  rcases hm.2 with⟨h, -⟩|⟨b,off,cap,h, -⟩<;>exact⟨_,_,_,h⟩
 obtain⟨ha,hc,rfl⟩:=hR.shape;obtain⟨ag,W3,ad,ab,ae,ac⟩:=Qe zlL hR hm (Zv l) hl 120;have aa:(Value.slice ha notes.length hc).ownBlock≠some B:=λe=>(hR.ne_blk hB (by decide) e) rfl
 have k3:=hB.kept (ae.block B hB.lt (λe=>aa e.symm));have f3:=k3.frozen;have l3:=k3.lt;have c3:=k3.cell;obtain⟨sa,sc,rfl⟩:=ab.shape;clear hm;replace hB:=hid hB;replace hR:=hid hR;replace ab:=hid ab;replace k3:=hid k3;replace o2:=hid o2;replace ac:=hid ac;replace aa:=hid aa
 go_enter func207,ntmps207
 go_wp2_with (at_builtin
              refine zv rfl _ _ _ rfl rfl rfl ad ?_)
 go_end0
 have af:∀g,(Value.slice sa (notes.length+l.length) sc).ownBlock=some g->((Value.slice ha notes.length hc).ownBlock=some g∨g=w.heap.size):=λg hg=>by
  have:=ac.out;rw [hg] at this
  rcases this with h|h
  ·exact .inl h.symm
  right;simpa using h
 refine⟨rfl,ow.ext w.heap.size (λk=>(Value.slice sa (notes.length+l.length) sc).ownBlock=some k) t,⟨?_,λk hk=>Own.ext_old hk⟩,.slice sa (notes.length+l.length) sc,k3.out.set (o:=1) _,?_,?_,?_⟩
 ·exact(Mod.grown (X:=λk=>Sub t (ow k)) ae (λk h=>by rw [o2.out k h];exact Sub.rfl' t)).thenSet (p:=⟨B,1,none⟩) (by simp only [o1];exact Sub.rfl' t) _
 ·simp only [N1,U5]
  refine ab.out.kept (λg hg=>N4 _ _ _ _ (λe=>?_));have e':g=B:=e;subst e'
  rcases af g hg with h|h
  ·exact aa.out h
  omega
 ·rw [Own.ext_old l0,o1]
 intro g hg
 rcases af g hg with h|h
 ·rw [Own.ext_old (hR.out.lt h),o2.out g h]
 rw [Own.ext_new (by omega) hg]
theorem zc4 {B last last':Nat}{notes:List (Nat×Int×List UInt8)}{t:List Nat}{ow:Own}{W:World}(h:jK B last notes t ow W):zp t ow W ow (W.setCell ⟨B,0,none⟩ (.int .u32 last'))/\jK B last' notes t ow (W.setCell ⟨B,0,none⟩ (.int .u32 last')):=by
 obtain⟨lv,hB,hR,o1,o2⟩:=h;refine⟨zp.setCell W ⟨B,0,none⟩ _ (by rw [o1];exact Sub.rfl' t),lv,hB.set (o:=0) _,hR.kept (λg hg=>N4 _ _ _ _ (λe=>?_)),o1,o2⟩;exact hR.ne_blk hB (by decide) hg e
def yu(last:Nat)(notes:List (Nat×Int×List UInt8))(d:Int)(s:List UInt8):Nat×List (Nat×Int×List UInt8)×Nat×Int:=if 1000<=notes.length then(last,notes,0,30)else(last+1,notes++ [(last+1,d,s)],last+1,0)
theorem zc5(B last:Nat)(notes:List (Nat×Int×List UInt8))(hlast:last<4294967295)(t:List Nat)(ow:Own)(d:Int)(s:List UInt8)(w:World)(h:jK B last notes t ow w)(hn:notes.length<=1000):
 Calls prog 155 #[.pointer (some ⟨B,0,none⟩),.int .i64 d,.string (bs s)] w (Js B (yu last notes d s).1 (yu last notes d s).2.1 t ow w (.tuple #[.int .u32 ((yu last notes d s).2.2.1:Nat),.int .i64 (yu last notes d s).2.2.2])):=by
 have h0:=h;have aa:=zc4 (last':=last+1) h;obtain⟨lv,hB,hR,o1,o2⟩:=h;have e0:=hB.cell;obtain⟨ha,hc,rfl⟩:=hR.shape;have ac:=zgT B last _ hlast w hB;unfold yu
 by_cases hf:1000<=notes.length
 ·have t1:decide ((1000:Int)<=(notes.length:Int))=true:=by simp;omega
  rw [if_pos hf];replace h0:=hid h0;clear aa hB hR
  go_enter func155,ntmps155
  go_wp2;go_ret2
  exact⟨rfl,ow,zp.refl _ _ _,h0.out⟩
 have t1:decide ((1000:Int)<=(notes.length:Int))=false:=by simp;omega
 rw [if_neg hf];obtain⟨W1,ad⟩:∃W1,W1=w.setCell ⟨B,0,none⟩ (.int .u32 (last+1:Nat)):=⟨_,rfl⟩;rw [← ad] at aa ac;have ab:=λW hb hs=>zi1 B (last+1) notes t ow (.slice (some ⟨W1.heap.size,0,none⟩) 1 1) [(last+1,d,s)] W ((jK.loc B (last+1) notes t).below aa.2 hb) hs (by simp;omega)
 replace ab:=hid ab;replace aa:=hid aa;replace ac:=hid ac;clear h0 hB hR
 go_enter func155,ntmps155
 go_wp2_with fail
 refine ac.out.mono ?_;rintro e w1⟨rfl,rfl⟩;clear ad e0;go_wp2_with fail
 refine(ab.out (w1.alloc (.cells #[.int .u32 (last+1:Nat),.int .i64 d,.string (bs s)] 178)) (pbx) (jD (n:=1) (size:=3) (cap:=1) (Blk.new rfl) rfl (N0 1))).mono ?_;rintro e w2⟨rfl,af,ae,hF⟩;go_wp2;go_ret2
 exact⟨rfl,af,(aa.out.1.trans (zp.of_below t ow (pbx))).trans ae,hF⟩
theorem zgU(B last:Nat)(notes:List (Nat×Int×List UInt8))(hlast:last<4294967295)(t:List Nat)(ow:Own)(d:Int)(hd0:0<=d)(hd:d<16)(s:List UInt8)(w:World)(h:jK B last notes t ow w)(hn:notes.length<=1000):
 Calls prog 191 #[.pointer (some ⟨B,0,none⟩),.int .i64 d,.string (bs s)] w (Js B (yu last notes d s).1 (yu last notes d s).2.1 t ow w (.tuple #[.int .u32 ((yu last notes d s).2.2.1:Nat),.int .i64 (yu last notes d s).2.2.2])):=by
 have hl:=zc5 B last notes hlast t ow d s w h hn;have t1:decide (d<0)=false:=by simp;omega
 have t2:decide ((16:Int)<=d)=false:=by simp;omega
 generalize yu last notes d s=q at*
 obtain⟨q1,q2,q3,q4⟩:=q;simp only at hl⊢;replace hl:=hid hl;clear h
 go_enter func191,ntmps191
 go_wp2_with fail
 refine hl.out.mono ?_;rintro e w1⟨rfl,aa,hs,hF⟩;go_wp2;go_ret2
 exact⟨rfl,aa,hs,hF⟩
theorem zbu(w:World):(binOp .eql 120 (.slice none 0 0) (.slice none 0 0)).run prog w=.ok (.bool true) w:=by kernel_rfl
theorem zc6(a:Addr)(n c:Nat)(w:World):(binOp .eql 120 (.slice (some a) n c) (.slice none 0 0)).run prog w=.ok (.bool false) w:=by kernel_rfl
theorem zgV(v:Value)(l:List (Nat×Int×List UInt8))(w:World)(hv:Src w v 3 l.length (l.flatMap je))(hb:l.length<=1073741824):Calls prog 165 #[v] w λe w'=>
 ∃v',e=.returned v'/\Row w' 178 3 v' l.length (l.flatMap je)/\Below w.heap.size w w':=by
 have af:=zbu w;have ag:=λa n c=>zc6 a n c w
 have aa:=hv
 rcases hv.2 with⟨rfl,h0⟩|⟨b,off,cap,rfl,hc,hr⟩
 ·obtain rfl:l=[]:=N9 h0
  go_enter func165,ntmps165
  go_wp2;go_ret
  exact⟨_,rfl,jc _ _ _,N2 _ _⟩
 clear hr hv
 replace aa:=hid aa;replace hb:=hid hb
 go_enter func165,ntmps165
 go_wp2_with (at_builtin
              obtain⟨v',w',ab,ac,ae,ad⟩:=zM zlL (ziZ w 178 3) (Src.below (Hid.out aa) ((N2 _ _).alloc (N0 _) _)) (Zv l) (by have:=hb.out;omega) 120
              refine zv rfl _ _ _ rfl rfl rfl ab ?_)
 go_ret
 exact⟨_,rfl,by simpa using ac,((N2 _ _).alloc (N0 _) _).grown ae (by simp) (λk hk=>by simp [Value.ownBlock] at hk;omega)⟩
theorem zi2(B last:Nat)(notes:List (Nat×Int×List UInt8))(t:List Nat)(ow:Own)(w:World)(h:jK B last notes t ow w)(hn:notes.length<=1000):Calls prog 112 #[.pointer (some ⟨B,0,none⟩)] w λe w'=>
 ∃v',e=.returned v'/\Row w' 178 3 v' notes.length (notes.flatMap je)/\Below w.heap.size w w':=by
 obtain⟨lv,hB,hR,o1,o2⟩:=h;have e0:=hB.cell;have hc:=zgV lv notes w hR.src (by omega);replace hc:=hid hc;clear hR hB o2
 go_enter func112,ntmps112
 go_wp2_with fail
 refine hc.out.mono ?_;rintro e w2⟨v',rfl,h1,h2⟩;go_wp2;go_ret
 exact⟨_,rfl,h1,h2⟩
theorem zey(l:List (Nat×Int×List UInt8))(k:Nat)(x:(Nat×Int×List UInt8))(hx:l[k]?=some x)(j:Nat)(hj:j<3):(l.flatMap je)[k*3+j]?=(je x)[j]?:=by
 induction l generalizing k with
 |nil=>simp at hx
 |cons y l ih=>
  rw [List.flatMap_cons]
  cases k with
  |zero=>simp at hx;subst hx;rw [U8 (by simp [je];omega)];simp
  |succ k=>
   rw [U6 (by simp [je];omega)];have:=ih k (by simpa using hx);rw [← this]
   congr 1
   simp [je];omega
theorem zkC {W:World}{l:List (Nat×Int×List UInt8)}{b off cap:Nat}(h:Src W (.slice (some ⟨b,off,none⟩) l.length cap) 3 l.length (l.flatMap je)){k:Nat}{x:(Nat×Int×List UInt8)}(hx:l[k]?=some x):
 W.cell? ⟨b,off+k*3,none⟩=some (.int .u32 (x.1:Nat))/\W.cell? ⟨b,off+k*3+1,none⟩=some (.int .i64 x.2.1)/\W.cell? ⟨b,off+k*3+2,none⟩=some (.string (bs x.2.2)):=by
 rcases h.2 with⟨h, -⟩|⟨b',off',cap',h, -,hr⟩
 ·cases h
 cases h
 have aa:∀j u,(je x)[j]?=some u->j<3->W.cell? ⟨b,off+(k*3+j),none⟩=some u:=λj u hu hj=>hr _ u ((zey l k x hx j hj).trans hu)
 exact⟨aa 0 _ rfl (by omega),aa 1 _ rfl (by omega),aa 2 _ rfl (by omega)⟩
theorem zbv {W:World}{l:List (Nat×Int×List UInt8)}{b off cap:Nat}(h:Src W (.slice (some ⟨b,off,none⟩) l.length cap) 3 l.length (l.flatMap je)){k:Nat}(hk:k<=l.length):
 Src W (.slice (some ⟨b,off+k*3,none⟩) (l.length - k) (cap - k)) 3 (l.drop k).length ((l.drop k).flatMap je):=by
 rw [U3];refine⟨by rw [xU,U3],.inr ⟨b,off+k*3,cap - k,rfl,?_,λj u hu=>?_⟩⟩
 ·rcases h.2 with⟨h, -⟩|⟨b',off',cap',h,hc,hr⟩
  ·cases h
  cases h;omega
 rcases h.2 with⟨h, -⟩|⟨b',off',cap',h,hc,hr⟩
 ·cases h
 cases h
 rw [Nat.add_assoc];refine hr _ u ?_;have aa:l.flatMap je=(l.take k).flatMap je++(l.drop k).flatMap je:=by rw [← U5,List.take_append_drop]
 have hl:((l.take k).flatMap je).length=k*3:=by rw [xU,N7,Nat.min_eq_left hk]
 rw [aa,U6 (by omega),hl,Nat.add_sub_cancel_left];exact hu
def zi3(x:(Nat×Int×List UInt8)):Value:=.agg #[.int .u32 (x.1:Nat),.int .i64 x.2.1,.string (bs x.2.2)]
def zbw(notes:List (Nat×Int×List UInt8))(p:Int):List (Nat×Int×List UInt8)×(Nat×Int×List UInt8)×Int:=if p<0 then(notes,(0,0,[]),2)else match notes[p.toNat]? with
 |none=>(notes,(0,0,[]),2)
 |some x=>(notes.eraseIdx p.toNat,x,0)
theorem zfs {notes:List (Nat×Int×List UInt8)}{p:Int}(h:¬(0<=p/\p<notes.length)):zbw notes p=(notes,(0,0,[]),2):=by
 unfold zbw
 split
 ·rfl
 rw [List.getElem?_eq_none (by omega)]
theorem zi4 {notes:List (Nat×Int×List UInt8)}{k:Nat}{x:(Nat×Int×List UInt8)}(h:notes[k]?=some x):zbw notes (k:Int)=(notes.eraseIdx k,x,0):=by
 unfold zbw;rw [if_neg (by omega),Int.toNat_natCast,h]
theorem zgW(B last:Nat)(notes:List (Nat×Int×List UInt8))(t:List Nat)(ow:Own)(p:Int)(w:World)(h:jK B last notes t ow w)(hn:notes.length<=1000):
 Calls prog 99 #[.pointer (some ⟨B,0,none⟩),.int .i64 p] w (Js B last (zbw notes p).1 t ow w (.tuple #[zi3 (zbw notes p).2.1,.int .i64 (zbw notes p).2.2])):=by
 have h0:=h;obtain⟨lv,hB,hR,o1,o2⟩:=h;obtain⟨ha,hc,rfl⟩:=hR.shape;have ad:=λW hW=>zkB B last notes.length hc ha p W hW
 by_cases hp:0<=p/\p<(notes.length:Int)
 ·obtain⟨k,rfl⟩:∃k:Nat,p=(k:Int):=⟨p.toNat,by omega⟩
  have hk:k<notes.length:=by omega
  obtain⟨x,hx⟩:∃x,notes[k]?=some x:=⟨_,N3 hk⟩;rw [zi4 hx];simp only [show decide (0<=(k:Int))=true by simp,show decide ((k:Int)<(notes.length:Int))=true by simpa using hk,Bool.and_self] at ad
  obtain⟨g,rfl⟩:∃g,ha=some ⟨g,0,none⟩:=by
   rcases hR.2 with⟨h,h1⟩|⟨g,cap,cur,h, -⟩
   ·omega
   cases h;exact⟨g,rfl⟩
  obtain⟨c0,c1,c2⟩:=zkC hR.src hx;simp only [Nat.zero_add] at c0 c1 c2;have lg:=hR.lt (g:=g) rfl;have ah:=hB.alloc (.cells #[.int .u32 0,.int .i64 0,.string ⟨#[]⟩] 178);have e0:=ah.cell;have cl:=λ(q:Addr)(hq:q.block<w.heap.size)=>((N2 w.heap.size w).alloc (N0 _) (.cells #[.int .u32 0,.int .i64 0,.string ⟨#[]⟩] 178)).cell hq
  have d0:=(cl ⟨g,k*3,none⟩ lg).trans c0;have d1:=(cl ⟨g,k*3+1,none⟩ lg).trans c1;have d2:=(cl ⟨g,k*3+2,none⟩ lg).trans c2;have y0:(0:Int)<=(k:Int):=by omega
  have y1:(k:Int)<(notes.length:Int):=by omega
  replace ad:=hid ad;replace h0:=hid h0;replace cl:=hid cl;clear c0 c1 c2
  go_enter func99,ntmps99
  go_wp2_with fail
  refine(ad.out _ ah).mono ?_;rintro e w1⟨rfl,ao⟩;obtain rfl:=ao.symm;go_wp2_with fail
  have hz:notes.length<=hc:=by
   rcases hR.2 with⟨h,h1⟩|⟨g,cap,cur,h, -,h2, -⟩
   ·omega
   cases h;exact h2
  have y2:(k:Int)<=(hc:Int):=by omega
  have y3:(0:Int)<=(k:Int)+1:=by omega
  have y4:(k:Int)+1<=(notes.length:Int):=by omega
  have y5:IntKind.i64.wrap ((k:Int)+1)=(k:Int)+1:=by rw [N8];omega
  have a1:=(ah.alloc (.cells #[.int .u32 (x.1:Nat),.int .i64 x.2.1,.string (bs x.2.2)] 178)).drew;refine zd [O 0,O 1,O 2,O 3,O 4,O 5,O 6,O 7,O 8,O 9,O 10,O 11,O 12,O 13,O 14,E 15,O 16,O 17,E 18] (some 18) (λw'=>Blk w' B #[.int .u32 last,.slice (some ⟨g,0,none⟩) notes.length hc] 122/\True) (by kernel_rfl) (by kernel_rfl) ⟨a1,trivial⟩ ?_
  refine Wd ?_
  obtain⟨W,hW⟩:∃W,W=((w.alloc (.cells #[.int .u32 0,.int .i64 0,.string ⟨#[]⟩] 178)).alloc (.cells #[.int .u32 (x.1:Nat),.int .i64 x.2.1,.string (bs x.2.2)] 178)).drew:=⟨_,rfl⟩;have aq:Below w.heap.size w W:=by rw [hW];exact pbx
  have a6:W.heap.size=w.heap.size+1+1:=by rw [hW];simp
  have k0:Blk W w.heap.size #[.int .u32 0,.int .i64 0,.string ⟨#[]⟩] 178:=by rw [hW];exact((Blk.new rfl).alloc _).drew
  have k1:Blk W (w.heap.size+1) #[.int .u32 (x.1:Nat),.int .i64 x.2.1,.string (bs x.2.2)] 178:=by rw [hW];exact(Blk.new (by simp)).drew
  have ay:=hR.kept (λq hq=>aq.block q (hR.lt hq))
  have ac:Src W (.slice (if hc=k+1 then some ⟨g,0,none⟩else some ⟨g,(k+1)*3,none⟩) (notes.length - (k+1)) (hc - (k+1))) 3 (notes.drop (k+1)).length ((notes.drop (k+1)).flatMap je):=by
   have h:=zbv ay.src (show k+1<=notes.length by omega);rw [Nat.zero_add] at h
   by_cases hck:hc=k+1
   ·rw [if_pos hck]
    have a4:notes.length=k+1:=by omega
    have hd:notes.drop (k+1)=[]:=List.drop_eq_nil_of_le (by omega);rw [hd,a4,Nat.sub_self];exact⟨rfl,.inr ⟨g,0,_,rfl,Nat.zero_le _,λj u hu=>by simp at hu⟩⟩
   rw [if_neg hck];exact h
  generalize(if hc=k+1 then some (⟨g,0,none⟩:Addr)else some ⟨g,(k+1)*3,none⟩)=sp at ac⊢
  have ag:=ay.clip k (by omega) (by simp);have au:(notes.drop (k+1)).length=notes.length - (k+1):=by rw [U3]
  obtain⟨v',W8,ae,aa,ak,af⟩:=Qe zlL ag ac (Zv _) (by omega) 120
  have an:(notes.flatMap je).take (k*3)++(notes.drop (k+1)).flatMap je=(notes.eraseIdx k).flatMap je:=by
   rw [List.eraseIdx_eq_take_drop_succ,U5]
   congr 1
   conv=>lhs;rw [← List.take_append_drop k notes,U5]
   rw [List.take_append_of_le_length (by rw [xU,N7];omega),List.take_of_length_le (by rw [xU,N7];omega)]
  have ar:k+(notes.drop (k+1)).length=(notes.eraseIdx k).length:=by rw [List.length_eraseIdx_of_lt hk];omega
  rw [an,ar] at aa;have ax:g≠B:=hR.ne_blk hB (by decide) rfl;have ai:=(hB.below aq hB.lt).kept (ak.block B (by have:=hB.lt;omega) (λe=>ax (by simpa [Value.ownBlock] using e.symm)))
  have a3:=k0.kept (ak.block w.heap.size (by omega) (λe=>by have:w.heap.size=g:=(by simpa [Value.ownBlock] using e);omega))
  have a0:=k1.kept (ak.block (w.heap.size+1) (by omega) (λe=>by have:w.heap.size+1=g:=(by simpa [Value.ownBlock] using e);omega))
  obtain⟨sa,sc,rfl⟩:=aa.shape;have ab:w.heap.size≠B:=by have:=hB.lt;omega
  have aj:w.heap.size+1≠B:=by have:=hB.lt;omega
  have a7:=ai.lt;replace aa:=hid aa;replace af:=hid af;replace ae:=hid ae;replace ac:=hid ac;replace an:=hid an;replace ar:=hid ar;replace au:=hid au;replace hx:=hid hx;rw [← hW];refine zc rfl (λK hK=>?_);refine zv rfl _ _ _ rfl rfl rfl ae.out ?_;unfold wpList;refine hK.out _ _ (λ_=>⟨ai,trivial⟩) ?_;clear hK K e0
  refine Wd ?_
  have a2:=ai.frozen;have a5:=ai.cell;refine zc rfl (λK hK=>?_);go_wp2;refine hK.out _ _ (λhh=>absurd rfl hh) ?_;clear hK K a2 a5;refine zg ?_;have al:=a3.other (p:=⟨B,1,none⟩) ab (.slice sa (notes.eraseIdx k).length sc);have az:=a0.other (p:=⟨B,1,none⟩) aj (.slice sa (notes.eraseIdx k).length sc);have c0:=al.cell;have f0:=al.frozen;have l0:=al.lt;have c1:=az.cell;have rr:=(((al.set (o:=0) (.int .u32 (x.1:Nat))).set (o:=1) (.int .i64 x.2.1)).set (o:=2) (.string (bs x.2.2))).cell
  have am:∀q,(Value.slice sa (notes.eraseIdx k).length sc).ownBlock=some q->q=g∨q=W.heap.size:=λq hq=>by
   have:=af.out;rw [hq] at this
   rcases this with h|h
   ·left;simpa [Value.ownBlock] using h
   right;simpa using h
  have aw:ow g=t:=o2 g rfl;replace o2:=hid o2;replace am:=hid am;go_wp2;refine bodyPost_ret (v:=.tuple #[zi3 x,.int .i64 0]) (by simp [results,Tryz.results99,go_sem,rr];rfl) rfl ⟨rfl,ow.ext W.heap.size (λq=>(Value.slice sa (notes.eraseIdx k).length sc).ownBlock=some q) t,?_,?_⟩
  ·have s1:zp t ow w ow W8:=(zp.of_below t ow aq).trans (zp.grown ak (λq hq=>by
    have:g=q:=by simpa [Value.ownBlock] using hq
    rw [← this,aw];exact Sub.rfl' t))
   have s2:=s1.trans (zp.setCell W8 ⟨B,1,none⟩ (.slice sa (notes.eraseIdx k).length sc) (by rw [o1];exact Sub.rfl' t));exact(((s2.setNew ⟨w.heap.size,0,none⟩ _ (N0 _)).setNew ⟨w.heap.size,1,none⟩ _ (N0 _)).setNew ⟨w.heap.size,2,none⟩ _ (N0 _)).own (λq hq=>Own.ext_old (by omega))
  have ap:∀q,(Value.slice sa (notes.eraseIdx k).length sc).ownBlock=some q->q≠B/\q≠w.heap.size:=λq hq=>by
   rcases am.out q hq with rfl|rfl
   ·exact⟨ax,by omega⟩
   have:=hB.lt;exact⟨by omega,by omega⟩
  refine⟨_,(((ai.set (o:=1) (.slice sa (notes.eraseIdx k).length sc)).other (p:=⟨w.heap.size,0,none⟩) (Ne.symm ab) _).other (p:=⟨w.heap.size,1,none⟩) (Ne.symm ab) _).other (p:=⟨w.heap.size,2,none⟩) (Ne.symm ab) _,aa.out.kept (λq hq=>?_),?_,λq hq=>?_⟩
  ·have h1:=ap q hq
   rw [N4 _ _ _ _ h1.2,N4 _ _ _ _ h1.2,N4 _ _ _ _ h1.2,N4 _ _ _ _ h1.1]
  ·rw [Own.ext_old (by have:=hB.lt;omega),o1]
  rcases am.out q hq with rfl|rfl
  ·rw [Own.ext_old (by omega),aw]
  rw [Own.ext_new (N0 _) hq]
 rw [zfs hp]
 have hb:(decide (0<=p)&& decide (p<(notes.length:Int)))=false:=by simpa using hp
 rw [hb] at ad;have ah:=hB.alloc (.cells #[.int .u32 0,.int .i64 0,.string ⟨#[]⟩] 178);have kr:Blk (w.alloc (.cells #[.int .u32 0,.int .i64 0,.string ⟨#[]⟩] 178)) w.heap.size #[.int .u32 0,.int .i64 0,.string ⟨#[]⟩] 178:=Blk.new rfl;have rr:=(((kr.set (o:=0) (.int .u32 0)).set (o:=1) (.int .i64 0)).set (o:=2) (.string ⟨#[]⟩)).cell;have e0:=kr.cell;have f0:=kr.frozen;have l0:=kr.lt;replace ad:=hid ad;replace hb:=hid hb;replace h0:=hid h0;clear hB hR o2
 go_enter func99,ntmps99
 go_wp2_with fail
 refine(ad.out _ ah).mono ?_;rintro e w1⟨rfl,ao⟩;obtain rfl:=ao.symm;go_wp2;exact bodyPost_ret (v:=.tuple #[zi3 (0,0,[]),.int .i64 2]) (by simp [results,Tryz.results99,go_sem,e0];rfl) rfl ⟨rfl,ow,zp.of_below t ow (pbx),(jK.loc B last notes t).below h0.out (pbx)⟩
def zN(v:jE):List Value:=[.int .u64 (v.1:Nat),.int .u64 (v.2.1:Nat),.string (bs v.2.2)]
theorem YS(l:List jE):(l.flatMap zN).length=l.length*3:=by
 induction l with
 |nil=>rfl
 |cons m l ih=>simp [List.flatMap_cons,zN,ih];omega
def zE(pv:Value)(l:ye):List Value:=
 [.int .i64 l.inst,.int .u64 (l.ballot:Nat),.string (bs l.value),pv] ++(l.promised.map Value.bool++(l.voted.map Value.bool++ [.int .i64 (l.votes:Nat),.bool l.asked,.bool l.told]))
def YT(B:Nat)(l:ye)(t:List Nat)(ow:Own)(W:World):Prop:=
 l.promised.length=16/\l.voted.length=16/\∃pv,Blk W B (zE pv l).toArray 175/\Row W 317 3 pv l.promises.length (l.promises.flatMap zN)/\ow B=t/\∀g,pv.ownBlock=some g->ow g=t
theorem YT.loc(B:Nat)(l:ye)(t:List Nat):yC t (YT B l t):=by
 rintro ow ow' W W'⟨h1,h2,lv,hB,hR,o1,o2⟩ hs hk;have kB:=hk B hB.lt (by rw [o1];exact Sub.rfl' t);have kR:∀g,lv.ownBlock=some g->ow' g=ow g/\W'.heap[g]?=W.heap[g]?:=λg hg=>hk g (hR.lt hg) (by rw [o2 g hg];exact Sub.rfl' t)
 exact⟨h1,h2,lv,hB.kept kB.2,hR.kept (λg hg=>(kR g hg).2),kB.1.trans o1,λg hg=>(kR g hg).1.trans (o2 g hg)⟩
def jZ(s:jV):List Value:=[.int .u64 (s.greatest:Nat),.int .i64 (s.accepted:Nat),.int .i64 (s.delivered:Nat),.bool s.stale,.bool s.lent]
def xV(h:Yv):List Value:=[.int .i64 h.1,.int .i64 h.2.1,.int .i64 h.2.2.1.1,.int .u32 (h.2.2.1.2:Nat),.string (bs h.2.2.2)]
structure WK where
 fb:Nat
 lm:Nat
 hm:Nat
 dm:Nat
 bx:Nat
 nb:Nat
 nc:Nat
 sb:Nat
 nl:List Nat
def QM(i:Int):Value:=.agg #[.int .i64 i]
def zhr(k:Nat):Value:=.int .u32 k
def zkD(k:Int):Value:=.int .i64 k
def zez(bx:Nat):List (Int×Value):=[(1,.func (.func 45) #[] #[.pointer (some ⟨bx,0,none⟩)]),(2,.func (.func 47) #[] #[.pointer (some ⟨bx,0,none⟩)]),(3,.func (.func 49) #[] #[.pointer (some ⟨bx,0,none⟩)]),(4,.func (.func 51) #[] #[.pointer (some ⟨bx,0,none⟩)]),(5,.func (.func 53) #[] #[.pointer (some ⟨bx,0,none⟩)]),(6,.func (.func 55) #[] #[.pointer (some ⟨bx,0,none⟩)]),(7,.func (.func 57) #[] #[.pointer (some ⟨bx,0,none⟩)]),(8,.func (.func 59) #[] #[.pointer (some ⟨bx,0,none⟩)]),(9,.func (.func 61) #[] #[.pointer (some ⟨bx,0,none⟩)]),(10,.func (.func 63) #[] #[.pointer (some ⟨bx,0,none⟩)])]
def vE(l:List Nat):List Value:=l.map λb=>.pointer (some ⟨b,0,none⟩)
def xW(B:Nat)(K:WK)(tv:Value)(lp:Nat->Option Nat)(S:zf)(t:List Nat)(i:Nat):Own->World->Prop:=
 if i<16 then λow W=>∀m,S.nodes[i]?=some m->∃b,K.nl[i]?=some b/\jH b m (t++ [i]) ow W
 else if i=16 then jK K.fb S.last S.notes (t++ [i])
 else if i=17 then λow W=>ow K.lm=t++ [i] /\∃ps:List (Int×Value),(ps.map (·.1)).Nodup/\zZ W K.lm QM ps/\∀j:Nat,zH (j:Int) ps=(lp j).map λb=>.pointer (some ⟨b,0,none⟩)
 else if i=18 then λow W=>ow K.hm=t++ [i] /\zZ W K.hm zhr (S.hurt.map λq=>(q.1,Jy))
 else if i=19 then λow W=>ow K.dm=t++ [i] /\ow K.bx=t++ [i] /\zZ W K.dm zkD (zez K.bx)/\Blk W K.bx #[.pointer (some ⟨B,0,none⟩)] 24
 else if i=20 then λow W=>ow K.nb=t++ [i] /\K.nl.length=S.nodes.length/\Row W 43 1 (.slice (some ⟨K.nb,0,none⟩) S.nodes.length K.nc) S.nodes.length (vE K.nl)
 else if i=21 then λow W=>ow K.sb=t++ [i] /\S.seats.length=S.nodes.length/\Blk W K.sb (S.seats.flatMap jZ).toArray 90
 else if i=22 then λow W=>(∀g,tv.ownBlock=some g->ow g=t++ [i])/\Row W 80 5 tv S.trace.length (S.trace.flatMap xV)
 else if i<32 then λ_ _=>True
 else λow W=>match lp (i - 32),zH ((i - 32:Nat):Int) S.leads with
  |none,none=>True
  |some b,some l=>YT b l (t++ [i]) ow W
  |_,_=>False
theorem YU(B:Nat)(K:WK)(tv:Value)(lp:Nat->Option Nat)(S:zf)(t:List Nat)(i:Nat):yC (t++ [i]) (xW B K tv lp S t i):=by
 have kk:∀ {ow ow':Own} {W W':World},(∀k,k<W.heap.size->Sub (t++ [i]) (ow k)->ow' k=ow k/\W'.heap[k]?=W.heap[k]?)->∀k,k<W.heap.size->ow k=t++ [i] ->ow' k=ow k/\W'.heap[k]?=W.heap[k]?:=λhk k h1 h2=>hk k h1 (by rw [h2];exact Sub.rfl' _)
 unfold xW
 split
 ·intro ow ow' W W' h hs hk m hm
  obtain⟨b,hb,hN⟩:=h m hm;exact⟨b,hb,jH.loc b m _ _ _ _ _ hN hs hk⟩
 split
 ·exact jK.loc _ _ _ _
 split
 ·intro ow ow' W W' ⟨o,ps,hd,hM,hl⟩ hs hk
  have:=kk hk _ hM.lt o;exact⟨this.1.trans o,ps,hd,hM.kept this.2,hl⟩
 split
 ·intro ow ow' W W' ⟨o,hM⟩ hs hk
  have:=kk hk _ hM.lt o;exact⟨this.1.trans o,hM.kept this.2⟩
 split
 ·intro ow ow' W W' ⟨o,o2,hM,hB⟩ hs hk
  have k1:=kk hk _ hM.lt o;have k2:=kk hk _ hB.lt o2;exact⟨k1.1.trans o,k2.1.trans o2,hM.kept k1.2,hB.kept k2.2⟩
 split
 ·intro ow ow' W W' ⟨o,hl,hR⟩ hs hk
  have k1:=kk hk _ (hR.lt (g:=K.nb) rfl) o;exact⟨k1.1.trans o,hl,hR.kept (λg hg=>by cases hg;exact k1.2)⟩
 split
 ·intro ow ow' W W' ⟨o,hl,hB⟩ hs hk
  have k1:=kk hk _ hB.lt o;exact⟨k1.1.trans o,hl,hB.kept k1.2⟩
 split
 ·intro ow ow' W W' ⟨o,hR⟩ hs hk
  exact⟨λg hg=>(kk hk g (hR.lt hg) (o g hg)).1.trans (o g hg),hR.kept (λg hg=>(kk hk g (hR.lt hg) (o g hg)).2)⟩
 split
 ·intro ow ow' W W' h hs hk;trivial
 cases h1:lp (i - 32)<;>cases h2:zH ((i - 32:Nat):Int) S.leads
 ·intro ow ow' W W' h hs hk;trivial
 ·intro ow ow' W W' h hs hk;exact h
 ·intro ow ow' W W' h hs hk;exact h
 exact YT.loc _ _ _
structure zk(B:Nat)(K:WK)(tv:Value)(lp:Nat->Option Nat)(S:zf)(t:List Nat)(ow:Own)(W:World):Prop where
 blk:Blk W B #[.slice (some ⟨K.nb,0,none⟩) S.nodes.length K.nc,.slice (some ⟨K.sb,0,none⟩) S.nodes.length S.nodes.length,.map (some K.lm),.pointer (some ⟨K.fb,0,none⟩),.map (some K.hm),.map (some K.dm),tv] 65
 own:ow B=t
 part:∀i,xW B K tv lp S t i ow W
theorem zk.loc(B:Nat)(K:WK)(tv:Value)(lp:Nat->Option Nat)(S:zf)(t:List Nat):yC t (zk B K tv lp S t):=by
 intro ow ow' W W' h hs hk;have kB:=hk B h.blk.lt (by rw [h.own];exact Sub.rfl' t);exact⟨h.blk.kept kB.2,kB.1.trans h.own,λi=>YU B K tv lp S t i _ _ _ _ (h.part i) hs (λk a b=>hk k a ((Sub.child t i).trans b))⟩
def zK(B:Nat)(K:WK)(S:zf)(t:List Nat)(ow:Own)(W:World):Prop:=∃tv lp,zk B K tv lp S t ow W
theorem zK.loc(B:Nat)(K:WK)(S:zf)(t:List Nat):yC t (zK B K S t):=by
 rintro ow ow' W W'⟨tv,lp,h⟩ hs hk;exact⟨tv,lp,zk.loc B K tv lp S t _ _ _ _ h hs hk⟩
def qK(B:Nat)(K:WK)(S:zf)(t:List Nat)(ow:Own)(w:World)(v:Value)(e:Ending)(w':World):Prop:=
 e=.returned v/\∃ow',zp t ow w ow' w'/\zK B K S t ow' w'
variable {B:Nat}{K:WK}{tv tv':Value}{lp lp':Nat->Option Nat}{S S':zf}{t:List Nat}{ow ow':Own}{W W':World}
theorem zk.setPart(h:zk B K tv lp S t ow W)(i:Nat)(hs:zp (t++ [i]) ow W ow' W')(hn:S'.nodes.length=S.nodes.length)(he:∀j,j≠i->xW B K tv lp' S' t j=xW B K tv lp S t j)(hi:xW B K tv lp' S' t i ow' W'):zk B K tv lp' S' t ow' W':=
 ⟨by rw [hn];exact h.blk.kept (hs.block h.blk.lt (Z6 t i h.own)),(hs.agree B h.blk.lt).trans h.own,λj=>by
  by_cases hj:j=i
  ·rw [hj];exact hi
  rw [he j hj];exact(YU B K tv lp S t j).step (h.part j) hs (zR t (Ne.symm hj))⟩
theorem zk.node(h:zk B K tv lp S t ow W){i:Nat}{m:zq}(hi:i<16)(hm:S.nodes[i]?=some m):∃b,K.nl[i]?=some b/\jH b m (t++ [i]) ow W:=by
 have:=h.part i;unfold xW at this;rw [if_pos hi] at this;exact this m hm
theorem zk.flight(h:zk B K tv lp S t ow W):jK K.fb S.last S.notes (t++ [16]) ow W:=h.part 16
theorem zk.leadsM(h:zk B K tv lp S t ow W):ow K.lm=t++ [17] /\∃ps:List (Int×Value),(ps.map (·.1)).Nodup/\zZ W K.lm QM ps/\∀j:Nat,zH (j:Int) ps=(lp j).map λb=>.pointer (some ⟨b,0,none⟩):=h.part 17
theorem zk.hurtM(h:zk B K tv lp S t ow W):ow K.hm=t++ [18] /\zZ W K.hm zhr (S.hurt.map λq=>(q.1,Jy)):=h.part 18
theorem zk.does(h:zk B K tv lp S t ow W):ow K.dm=t++ [19] /\ow K.bx=t++ [19] /\zZ W K.dm zkD (zez K.bx)/\Blk W K.bx #[.pointer (some ⟨B,0,none⟩)] 24:=h.part 19
theorem zk.nrow(h:zk B K tv lp S t ow W):ow K.nb=t++ [20] /\K.nl.length=S.nodes.length/\Row W 43 1 (.slice (some ⟨K.nb,0,none⟩) S.nodes.length K.nc) S.nodes.length (vE K.nl):=h.part 20
theorem zk.srow(h:zk B K tv lp S t ow W):ow K.sb=t++ [21] /\S.seats.length=S.nodes.length/\Blk W K.sb (S.seats.flatMap jZ).toArray 90:=h.part 21
theorem zk.trow(h:zk B K tv lp S t ow W):(∀g,tv.ownBlock=some g->ow g=t++ [22])/\Row W 80 5 tv S.trace.length (S.trace.flatMap xV):=h.part 22
theorem zk.lead(h:zk B K tv lp S t ow W)(i:Nat):match lp i,zH (i:Int) S.leads with
 |none,none=>True
 |some b,some l=>YT b l (t++ [i+32]) ow W
 |_,_=>False:=by
 have:=h.part (i+32);unfold xW at this;rw [if_neg (by omega),if_neg (by omega),if_neg (by omega),if_neg (by omega),if_neg (by omega),if_neg (by omega),if_neg (by omega),if_neg (by omega),if_neg (by omega),Nat.add_sub_cancel] at this;exact this
theorem zk.setNode(h:zk B K tv lp S t ow W){i b:Nat}{m:zq}(hi:i<16)(hb:K.nl[i]?=some b)(hs:zp (t++ [i]) ow W ow' W')(hN:jH b m (t++ [i]) ow' W'):zk B K tv lp (setNode S i m) t ow' W':=by
 refine h.setPart i hs (by simp [Go.Proofs.YtofppfoioodblaaGreatDoor.setNode]) (λj hj=>?_) ?_
 ·unfold xW Go.Proofs.YtofppfoioodblaaGreatDoor.setNode
  simp only [List.getElem?_set_ne (Ne.symm hj),List.length_set]
 unfold xW Go.Proofs.YtofppfoioodblaaGreatDoor.setNode
 rw [if_pos hi];intro m' hm'
 have hl:i<S.nodes.length:=by
  have:=(N6.1 hm').1
  simpa using this
 simp only [List.getElem?_set_self hl,Option.some.injEq] at hm';subst hm';exact⟨b,hb,hN⟩
theorem zk.setFlight(h:zk B K tv lp S t ow W){last:Nat}{notes:List zgg}(hs:zp (t++ [16]) ow W ow' W')(hN:jK K.fb last notes (t++ [16]) ow' W'):zk B K tv lp {S with last:=last,notes:=notes} t ow' W':=by
 refine h.setPart 16 hs rfl (λj hj=>?_) hN;unfold xW;simp only [if_neg hj]
