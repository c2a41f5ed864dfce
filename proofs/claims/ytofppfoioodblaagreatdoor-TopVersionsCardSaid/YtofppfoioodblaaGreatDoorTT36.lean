/- PARTS OF THE PROOF. -/
import Derived.Test.YtofppfoioodblaaGreatDoorTT35
set_option maxRecDepth 8000
set_option maxHeartbeats 4000000
open Go.Proofs.Tryz
namespace Go.Proofs.YtofppfoioodblaaGreatDoor
section
open Go
variable {v:Int}{k L:Nat}{S:zf}
theorem Xh {K V:Type} [DecidableEq K] {i j:K}(h:i≠j):∀(l:List (K×V)),zD i (del j l)=zD i l
 | []=>rfl
 |(a,b)::l=>by
  unfold del
  by_cases hj:j=a
  ·rw [if_pos hj];subst hj
   conv=>rhs;unfold zD
   rw [if_neg h]
  ·rw [if_neg hj]
   unfold zD;rw [Xh h l]
theorem Qu {f:yQ}(h:JO f=true):f.data.length<=4096:=by
 unfold JO at h;simp only [Bool.and_eq_true,decide_eq_true_eq] at h;exact h.1.1.1.1.1.2
theorem Yz {f:yQ}(h:(qr f).2=0):JO f=true:=by
 unfold qr at h
 split at h
 ·simp at h
 ·rename_i h1;simpa using h1
theorem zjc {f:yQ}(h:(qr f).2=0):(qr f).1.length<=5000:=by
 have hd:=Qu (Yz h);have hr:=Yz h;unfold qr;rw [if_neg (by rw [hr];simp)];unfold qB;simp only [N1,zY,List.length_cons,List.length_nil]
 split<;>simp [zY] <;>omega
theorem qg.dec {n:Nat}{dst:Int}{s:List UInt8}(h:qg n dst s)(hn:n<=16)(hd:0<=dst/\dst<n):s.length<=5000/\(xA s).isSome/\∃(kind src:Nat)(data:List UInt8),kind<=7/\src<n/\data.length<=4096/\zfx s=(qu kind src dst data,0)/\s=(qr (qu kind src dst data)).1:=by
 obtain⟨kind,src,data,h1,h2,h3,rfl⟩:=h;have hd2:=zdf (kind:=(kind:Int)) (src:=(src:Int)) (dst:=dst) (data:=data) (by omega) (by omega) (by omega) (by omega) hd.1 (by omega) h3;refine⟨zjc hd2.1,?_,kind,src,data,h1,h2,h3,hd2.2,rfl⟩;have ho:=hd2.2;unfold zfx at ho
 cases hq:xA (qr (qu (kind:Int) (src:Int) dst data)).1 with
 |none=>rw [hq] at ho;simp at ho
 |some b=>rfl
theorem qh(S:zf)(d:Int)(s:List UInt8):(yq S d s).1.nodes=S.nodes/\(yq S d s).1.seats=S.seats/\(yq S d s).1.leads=S.leads/\(yq S d s).1.trace=S.trace/\(yq S d s).1.hurt=S.hurt:=by
 unfold yq
 split<;>exact⟨rfl,rfl,rfl,rfl,rfl⟩
theorem xH(S:zf)(f:yQ):(yY S f).nodes=S.nodes/\(yY S f).seats=S.seats/\(yY S f).leads=S.leads/\(yY S f).trace=S.trace/\(yY S f).hurt=S.hurt:=by
 unfold yY
 split
 ·exact qh _ _ _
 ·exact⟨rfl,rfl,rfl,rfl,rfl⟩
theorem zu.launch(h:zu v k L S)(hL:L<=4000000000){d:Int}{s:List UInt8}(hd:0<=d/\d<S.nodes.length)(hf:xA s=none/\s.length<=5000∨qg S.nodes.length d s)(hurt':List (Nat×Unit))
 (hh:∀i,zD i hurt'=none->zD i S.hurt=none) (hsum:zD (S.last+1) hurt'=none->qg S.nodes.length d s) (hroom:S.notes.length<1000):
 (yq S d s).2=(S.last+1,0)/\zu v k (L+1) {(yq S d s).1 with hurt:=hurt'} :=by
 have hw:(S.last+1)% 4294967296=S.last+1:=Nat.mod_eq_of_lt (by have:=h.last;omega);unfold yq;rw [if_neg (by omega),hw];refine⟨rfl,h.n0,h.nodes,h.seatsN,h.seats,h.leadsN,h.leads,?_,λx hx=>?_,?_,λx hx=>?_,?_,h.trace⟩
 ·show(S.notes++ [_]).length<=1000
  rw [N1,U2];omega
 ·rcases List.mem_append.1 hx with hx|hx
  ·have:=h.notes x hx
   exact⟨this.dst,this.form,λe=>this.sum (hh _ e)⟩
  ·rw [List.mem_singleton] at hx
   subst hx;exact⟨hd,hf,hsum⟩
 ·show((S.notes++ [(S.last+1,d,s)]).map (·.1)).Nodup
  rw [List.map_append,List.nodup_append];refine⟨h.ids,by simp,λa ha b hb=>?_⟩;obtain⟨x,hx,rfl⟩:=List.mem_map.1 ha;have h1:=h.least x hx;simp at hb
  omega
 ·rcases List.mem_append.1 hx with hx|hx
  ·have:=h.least x hx
   show x.1<=S.last+1
   omega
  ·rw [List.mem_singleton] at hx
   subst hx;exact N0 _
 ·have:=h.last
  show S.last+1<=L+1
  omega
theorem zu.send(h:zu v k L S)(hL:L<=4000000000){kind src dst inst:Int}{ballot:Nat}{more:List UInt8}(hk:0<=kind/\kind<=7)(hs:0<=src/\src<S.nodes.length)(hd:0<=dst/\dst<S.nodes.length):
 zu v k (L+1) (yY S (ji kind src dst inst ballot more)):=by
 have hn:=h.n0;unfold yY
 split
 ·rename_i he
  have hl:=Qu (Yz he)
  have hlet:qg S.nodes.length dst (qr (ji kind src dst inst ballot more)).1:=⟨kind.toNat,src.toNat,(ji kind src dst inst ballot more).data,by omega,by omega,hl,by
   rw [show((kind.toNat:Nat):Int)=kind by omega,show((src.toNat:Nat):Int)=src by omega];rfl⟩
  by_cases hr:1000<=S.notes.length
  ·unfold yq;rw [if_pos hr];exact h.mono (N0 _) (by omega)
  ·have h1:=(h.launch hL (s:=(qr (ji kind src dst inst ballot more)).1) (d:=dst) hd (.inr hlet) S.hurt (λ_ e=>e) (λ_=>hlet) (by omega)).2
   rw [← (qh S dst (qr (ji kind src dst inst ballot more)).1).2.2.2.2] at h1;exact h1
 ·exact h.mono (N0 _) (by omega)
theorem zu.sends {kind src inst:Int}{ballot:Nat}{more:List UInt8}(hk:0<=kind/\kind<=7):∀(js:List Nat)(L:Nat)(S:zf),zu v k L S->L+js.length<=4000000000->0<=src/\src<S.nodes.length->(∀j∈js,j<S.nodes.length)->
 zu v k (L+js.length) (js.foldl (λw (i:Nat)=>yY w (ji kind src i inst ballot more)) S)
 | [],L,S,h,_,_,_=>h
 |j::js,L,S,h,hL,hs,hj=>by
  have hjl:=hj j (List.mem_cons_self ..);simp only [List.length_cons] at hL⊢;have h1:=h.send (by omega) (kind:=kind) (src:=src) (dst:=(j:Int)) (inst:=inst) (ballot:=ballot) (more:=more) hk hs ⟨by omega,by omega⟩;have hn:=(xH S (ji kind src j inst ballot more)).1;have h2:=zu.sends (inst:=inst) (ballot:=ballot) (more:=more) hk js (L+1) _ h1 (by omega) (by rw [hn];exact hs) (λi hi=>by rw [hn];exact hj i (U7 _ hi));rw [show L+(js.length+1)=L+1+js.length by omega];exact h2
theorem zu.sendAll(h:zu v k L S)(hL:L<=3000000000){kind src inst:Int}{ballot:Nat}{more:List UInt8}(hk:0<=kind/\kind<=7)(hs:0<=src/\src<S.nodes.length):zu v k (L+16) (j0 S kind src inst ballot more):=by
 have hn:=h.n0;have:=zu.sends (kind:=kind) (src:=src) (inst:=inst) (ballot:=ballot) (more:=more) hk (List.range S.nodes.length) L S h (by simp;omega) hs (λj hj=>List.mem_range.1 hj);rw [List.length_range] at this;exact this.mono (N0 _) (by omega)
theorem zhF(n:Nat)(ps:List jl)(own:List UInt8)(ho:own.length<=5000)(hp:∀x∈ps,x.2.2.length<=5000):(qI n ps own).1.length<=5000:=by
 unfold qI
 split
 ·simp
 split
 ·simp
 have:∀(l:List jl)(x:jl),(∀y∈l,y.2.2.length<=5000)->x.2.2.length<=5000->(l.foldl (λ(b:jl) y=>if b.2.1<y.2.1 then y else b) x).2.2.length<=5000:=by
  intro l
  induction l with
  |nil=>intro x _ h;exact h
  |cons y l ih=>
   intro x hy hx;rw [List.foldl_cons];refine ih _ (λz hz=>hy z (U7 _ hz)) ?_
   split
   ·exact hy y (List.mem_cons_self ..)
   ·exact hx
 exact this ps (0,0,own) hp ho
theorem zu.countPromise(h:zu v k L S)(hL:L<=3000000000){i src:Nat}(hi:i<S.nodes.length)(hs:src<S.nodes.length)(inst:Int){ballot:Nat}(_hb:ballot<18446744073709551616){more:List UInt8}(hm:more.length<=5000):
 zu v k (L+16) (countPromise S i src inst ballot more):=by
 have hn:=h.n0;unfold Go.Proofs.YtofppfoioodblaaGreatDoor.countPromise
 cases hl:zD (i:Int) S.leads with
 |none=>exact h.mono (N0 _) (by omega)
 |some l=>
  have hg:=h.leads i l hl;simp only
  split
  ·exact h.mono (N0 _) (by omega)
  ·rename_i hc
   simp only [not_or,Bool.not_eq_true] at hc;obtain⟨c1,c2,c3,c4,c5⟩:=hc;have hsp:src<l.promised.length:=by rw [hg.pn];omega
   have hok:zbK {l with promised:=l.promised.set src true,promises:=l.promises++ [(ballot,zW more 0+4294967296*zW more 4,more.drop 8)] } :=
    ⟨hg.inst,hg.ballot,hg.value,by simp [hg.pn],hg.vn,by simp only [N1,U2,YW _ _ c4 hsp,hg.pc],hg.vc,λy hy=>by
     rcases List.mem_append.1 hy with hy|hy
     ·exact hg.ps y hy
     ·rw [List.mem_singleton] at hy;subst hy;simp;omega⟩
   split
   ·exact(h.putLead i hok).mono (N0 _) (by omega)
   split
   ·exact(h.putLead i hok).mono (N0 _) (by omega)
   ·refine(h.putLead i ?_).sendAll hL ⟨by omega,by omega⟩ ⟨by omega,by show(i:Int)<S.nodes.length;omega⟩
    exact⟨hg.inst,hg.ballot,zhF _ _ _ hg.value hok.ps,hok.pn,hok.vn,hok.pc,hok.vc,hok.ps⟩
theorem zu.countVote(h:zu v k L S)(hL:L<=3000000000){i src:Nat}(hi:i<S.nodes.length)(hs:src<S.nodes.length)(inst:Int)(ballot:Nat):
 zu v k (L+16) (countVote S i src inst ballot):=by
 have hn:=h.n0;unfold Go.Proofs.YtofppfoioodblaaGreatDoor.countVote
 cases hl:zD (i:Int) S.leads with
 |none=>exact h.mono (N0 _) (by omega)
 |some l=>
  have hg:=h.leads i l hl;simp only
  split
  ·exact h.mono (N0 _) (by omega)
  ·rename_i hc
   simp only [not_or,Bool.not_eq_true] at hc;obtain⟨c1,c2,c3,c4⟩:=hc;have hsp:src<l.voted.length:=by rw [hg.vn];omega
   have hok:zbK {l with voted:=l.voted.set src true,votes:=l.votes+1} :=
    ⟨hg.inst,hg.ballot,hg.value,hg.pn,by simp [hg.vn],hg.pc,by simp only [YW _ _ c4 hsp,hg.vc],hg.ps⟩
   split
   ·exact(h.putLead i hok).mono (N0 _) (by omega)
   ·refine(h.putLead i ?_).sendAll hL ⟨by omega,by omega⟩ ⟨by omega,by show(i:Int)<S.nodes.length;omega⟩
    exact⟨hok.inst,hok.ballot,hok.value,hok.pn,hok.vn,hok.pc,hok.vc,hok.ps⟩
theorem zu.answer(h:zu v k L S)(hL:L<=3000000000){i:Nat}(hi:i<S.nodes.length){f:yQ}(hs:0<=f.src/\f.src<S.nodes.length)(inst:Int){ballot:Nat}(hb:ballot<18446744073709551616)(more:List UInt8):
 zu v k (L+16) (yO S i f inst ballot more):=by
 have hii:0<=(i:Int)/\(i:Int)<S.nodes.length:=⟨by omega,by omega⟩;have hg:=(h.node hi).2;unfold yO
 split
 ·exact(h.send (by omega) ⟨by omega,by omega⟩ hii hs).mono (N0 _) (by omega)
 ·split
  ·simp only
   have h1:=h.setNode i (hg.castX inst ballot more hb);have hn1:(Go.Proofs.YtofppfoioodblaaGreatDoor.setNode S i (yE (zr S i) inst ballot more).1).nodes.length=S.nodes.length:=by simp [Go.Proofs.YtofppfoioodblaaGreatDoor.setNode]
   split
   ·exact(h1.send (by omega) ⟨by omega,by omega⟩ (by rw [hn1];exact hii) (by rw [hn1];exact hs)).mono (N0 _) (by omega)
   ·exact h1.mono (N0 _) (by omega)
  ·simp only
   have h1:=h.setNode i (hg.promise inst ballot hb);have hn1:(Go.Proofs.YtofppfoioodblaaGreatDoor.setNode S i (zA (zr S i) inst ballot).1).nodes.length=S.nodes.length:=by simp [Go.Proofs.YtofppfoioodblaaGreatDoor.setNode]
   split
   ·exact(h1.send (by omega) ⟨by omega,by omega⟩ (by rw [hn1];exact hii) (by rw [hn1];exact hs)).mono (N0 _) (by omega)
   ·exact h1.mono (N0 _) (by omega)
theorem zu.receive(h:zu v k L S)(hL:L<=3000000000){i:Nat}(hi:i<S.nodes.length){f:yQ}(hs:0<=f.src/\f.src<S.nodes.length)(hd:f.data.length<=4096):zu v k (L+16) (yA S i f):=by
 have b1:=vW ((f.data.drop 4).take 4);have b2:=vW ((f.data.drop 8).take 4);have hb:zW f.data 4+4294967296*zW f.data 8<18446744073709551616:=by unfold zW;omega
 unfold yA
 split
 ·exact h.mono (N0 _) (by omega)
 simp only
 split
 ·exact h.answer hL hi hs _ hb _
 split
 ·exact h.countPromise hL hi (by omega) _ hb (by rw [U3];omega)
 split
 ·exact h.countVote hL hi (by omega) _ _
 split
 ·exact((h.stale hi).setNode i ((h.node hi).2.learnX _ _)).mono (N0 _) (by omega)
 ·exact h.mono (N0 _) (by omega)
theorem zu.erase(h:zu v k L S){p:Nat}{x:zfy}(hx:S.notes[p]?=some x):zu v k L {S with notes:=S.notes.eraseIdx p,hurt:=del x.1 S.hurt} :=by
 have hsub:=List.eraseIdx_sublist S.notes p;refine⟨h.n0,h.nodes,h.seatsN,h.seats,h.leadsN,h.leads,Nat.le_trans hsub.length_le h.notesN,λy hy=>?_,h.ids.sublist (hsub.map _),λy hy=>h.least y (hsub.subset hy),h.last,h.trace⟩;have hy':=h.notes y (hsub.subset hy);refine⟨hy'.dst,hy'.form,λe=>hy'.sum ?_⟩
 have hne:y.1≠x.1:=λe=>by
  obtain⟨j,hj⟩:=List.mem_iff_getElem?.1 hy;rw [List.getElem?_eraseIdx] at hj;have hp:=h.ids;rw [List.nodup_iff_pairwise_ne,List.pairwise_iff_getElem] at hp;have hpl:=(N6.1 hx)
  split at hj
  ·rename_i hjp
   have hjl:=(N6.1 hj);have:=hp j p (by simpa using hjl.1) (by simpa using hpl.1) hjp;simp [hjl.2,hpl.2,e] at this
  ·rename_i hjp
   have hjl:=(N6.1 hj);have:=hp p (j+1) (by simpa using hpl.1) (by simpa using hjl.1) (by omega);simp [hjl.2,hpl.2,e] at this
 rwa [Xh hne] at e
theorem zu.take(h:zu v k L S)(hL:L<=3000000000)(p:Int):zu v k (L+16) (xw S p).1:=by
 unfold xw
 split
 ·exact h.mono (N0 _) (by omega)
 ·split
  ·exact h.mono (N0 _) (by omega)
  ·rename_i id dst s hx
   have h1:=h.erase hx;have hok:=h.notes _ (List.mem_of_getElem? hx);simp only
   split
   ·rename_i hc
    have hd:0<=dst/\dst<(S.nodes.length:Int):=hok.dst
    rcases hok.form with hf|hf
    ·exfalso
     have h2:=hc.1;unfold zfx at h2;rw [hf.1] at h2;simp at h2
    ·obtain⟨-, -,kind,src,data,k1,k2,k3,k4, -⟩:=hf.dec h.n0.2 hok.dst
     rw [k4];exact h1.receive hL (by show dst.toNat<S.nodes.length;omega) ⟨by show 0<=(src:Int);omega,by show(src:Int)<(S.nodes.length:Int);omega⟩ k3
   ·exact h1.mono (N0 _) (by omega)
theorem vj.few {n:zp}(h:vj v n):n.acc.length<=116508/\n.loc.log.length<=640000:=by
 have hb:=h.ok.bounds;have:=hb.2.2.2.len;omega
theorem zu.tellOne(h:zu v k L S)(d:Bool){i:Nat}(hi:i<S.nodes.length):zu v k L (tellOne S d i):=by
 have hs:=h.seat hi;have hb:=h.seats i _ hs;have hf:=(h.node hi).2.few;have ht:=h.trace
 have gen:∀(s':jW)(tr:List JP),s'.greatest=(jg S i).greatest->s'.accepted<=116508->s'.delivered<=640000->tr.length+((jg S i).accepted+(jg S i).delivered)<=s'.accepted+s'.delivered->zu v k L {Go.Proofs.YtofppfoioodblaaGreatDoor.setSeat S i s' with trace:=S.trace++tr} :=by
  intro s' tr h1 h2 h3 h4;have hsum:=zhD (s':=s') (λs=>s.accepted+s.delivered) hs;refine⟨h.n0,h.nodes,by simpa [Go.Proofs.YtofppfoioodblaaGreatDoor.setSeat] using h.seatsN,λj s hj=>?_,h.leadsN,h.leads,h.notesN,h.notes,h.ids,h.least,h.last,?_⟩
  ·have hj':(S.seats.set i s')[j]?=some s:=hj
   by_cases hij:i=j
   ·subst hij
    rw [List.getElem?_set_self (by rw [h.seatsN];exact hi)] at hj'
    cases hj'
    rw [h1];exact⟨hb.1,h2,h3⟩
   ·rw [List.getElem?_set_ne hij] at hj';exact h.seats j s hj'
  ·show(S.trace++tr).length<=k+((S.seats.set i s').map λs=>s.accepted+s.delivered).sum
   rw [N1];omega
 unfold Go.Proofs.YtofppfoioodblaaGreatDoor.tellOne;simp only
 split
 ·split
  ·refine gen _ _ rfl hb.2.1 ?_ ?_
   ·show max _ _<=_;omega
   ·rw [List.length_map,U3]
    show _<=(jg S i).accepted+max _ _
    omega
  ·refine gen _ _ rfl ?_ hb.2.2 ?_
   ·show max _ _<=_;omega
   ·rw [List.length_map,U3]
    show _<=max _ _+(jg S i).delivered
    omega
 ·exact h
theorem JT(S:zf)(d:Bool)(i:Nat):(tellOne S d i).nodes=S.nodes:=by
 unfold tellOne;simp only
 split
 ·split<;>rfl
 ·rfl
theorem zu.tells(d:Bool):∀(js:List Nat)(S:zf),zu v k L S->(∀j∈js,j<S.nodes.length)->zu v k L (js.foldl (λw i=>Go.Proofs.YtofppfoioodblaaGreatDoor.tellOne w d i) S)
 | [],S,h,_=>h
 |j::js,S,h,hj=>by
  rw [List.foldl_cons];exact zu.tells d js _ (h.tellOne d (hj j (List.mem_cons_self ..))) (λi hi=>by rw [JT];exact hj i (U7 _ hi))
theorem xX(d:Bool):∀(js:List Nat)(S:zf),(js.foldl (λw i=>tellOne w d i) S).nodes=S.nodes
 | [],_=>rfl
 |j::js,S=>by rw [List.foldl_cons,xX d js,JT]
theorem zu.tell(h:zu v k L S):zu v k L (vZ S):=by
 unfold vZ;have h1:=zu.tells false (List.range S.nodes.length) S h (λj hj=>List.mem_range.1 hj);exact zu.tells true _ _ h1 (λj hj=>by rw [xX];exact List.mem_range.1 hj)
theorem zbN(known:List (Int×List UInt8)):∀(f i:Nat),ZQ known f i<=i+f
 |0,i=>N0 _
 |f+1,i=>by
  unfold ZQ
  split
  ·have:=zbN known f (i+1);omega
  ·omega
theorem vj.next {n:zp}(h:vj v n):yy n<=30000:=by
 have:=zbN n.pax.known 10001 (n.applied+1);have hb:=h.ok.bounds;unfold yy;omega
theorem JU(n:zp):(jP n).1.length<=4000:=by
 unfold jP
 split
 ·simp
 ·split
  ·exact Xg _
  ·split
   ·exact Xg _
   ·exact YX _ _ _ _ (by simp)
theorem zak {b node:Nat}(_:(ju b node).2=0):(ju b node).1<=1152921504606847008:=by
 unfold ju
 split
 ·omega
 ·rename_i h
  split<;>simp only<;>omega
theorem zu.propose(h:zu v k L S)(hL:L<=3000000000){i:Nat}(hi:i<S.nodes.length):zu v k (L+16) (yk S i).1:=by
 unfold yk
 split
 ·exact h.mono (N0 _) (by omega)
 split
 ·exact h.mono (N0 _) (by omega)
 ·rename_i hb
  have hb':(ju (jg S i).greatest i).2=0:=by simpa using hb
  have hbl:=zak hb';simp only;have hnx:=(h.node hi).2.next;have h1:=h.setSeat hi {jg S i with greatest:=(ju (jg S i).greatest i).1} ⟨hbl,rfl,rfl⟩
  have h2:=h1.putLead i (l:={inst:=yy (zr S i),ballot:=(ju (jg S i).greatest i).1,value:=(jP (zr S i)).1,promises:=[],promised:=List.replicate 16 false,voted:=List.replicate 16 false,votes:=0,asked:=false,told:=false})
   ⟨⟨by show 0<=((yy (zr S i):Nat):Int);omega,by show((yy (zr S i):Nat):Int)<=30000;omega⟩,by show(ju _ _).1<_;omega,Nat.le_trans (JU _) (by omega),by simp,by simp,by simp,by simp,by simp⟩
  exact h2.sendAll hL ⟨by omega,by omega⟩ ⟨by omega,by show(i:Int)<S.nodes.length;omega⟩
def zbO(k:Int):Prop:=k=1∨k=2∨k=3∨k=9∨k=10
theorem zu.deedA(h:zu v k L S)(hL:L<=3000000000)(o:OpD)(hs:o.s.length<=300)(hk:zbO o.kind)(hi:o.kind≠3->o.node.toNat<S.nodes.length):zu v k (L+16) (yZ S (zt v) o).1:=by
 have h0:=h.mono (N0 k) (show L<=L+16 by omega);unfold yZ;simp only
 rcases hk with e|e|e|e|e<;>have hl:=hi<;>(repeat rw [if_neg (by omega)])<;>rw [if_pos e]
 ·exact(h0.stale (hl (by omega))).setNode _ ((h.node (hl (by omega))).2.broadcast _ hs)
 ·exact h.propose hL (hl (by omega))
 ·exact h.take hL _
 ·exact((h0.stale (hl (by omega))).delLead _).setNode _ ((h.node (hl (by omega))).2.recover)
 ·exact h0.setNode _ ((h.node (hl (by omega))).2.want _)
theorem zu.does_of(h:zu v k L S)(s:StD)(o:OpD)(hd:1<=o.kind/\o.kind<=10->(¬(3<=o.kind/\o.kind<=6)->o.node.toNat<S.nodes.length)->zu v k (L+16) (yZ S s o).1):zu v (k+1) (L+16) (doW s S o).1:=by
 unfold doW
 split
 ·exact h.mono (by omega) (by omega)
 split
 ·exact h.mono (by omega) (by omega)
 ·rename_i h1 h2
  have ht:=(hd (by omega) (λhk=>by
   have:¬(o.node<0∨(S.nodes.length:Int)<=o.node):=λe=>h2 ⟨hk,e⟩
   omega)).tell
  simp only
  split
  ·refine⟨ht.n0,ht.nodes,ht.seatsN,ht.seats,ht.leadsN,ht.leads,ht.notesN,ht.notes,ht.ids,ht.least,ht.last,?_⟩
   have:=ht.trace
   show((vZ _).trace++ [_]).length<=_
   rw [N1,U2]
   show _<=k+1+((vZ (yZ S s o).1).seats.map λs=>s.accepted+s.delivered).sum
   omega
  ·exact ht.mono (by omega) (N0 _)
theorem zu.doesA(h:zu v k L S)(hL:L<=3000000000)(o:OpD)(hs:o.s.length<=300)(hk:zbO o.kind):zu v (k+1) (L+16) (doW (zt v) S o).1:=
 h.does_of _ o (λ_ hi=>h.deedA hL o hs hk (λh3=>hi (by unfold zbO at hk;omega)))
theorem zbP {v cap:Int}{n:Nat}(hn:1<=n/\n<=16)(h1:64<=cap)(h2:cap<=1048576):zu v 0 0 (qW n v cap (zt v)):=by
 have hl:(qW n v cap (zt v)).nodes.length=n:=by simp [qW]
 refine⟨by rw [hl];exact hn,λi m hm=>?_,by rw [hl];simp [qW],λi s hs=>?_,by simp [qW],λi l hi=>?_,by simp [qW],λx hx=>?_,by simp [qW],λx hx=>?_,N0 _,by simp [qW]⟩
 ·have hm':((List.range n).map λ(i:Nat)=>zgd i v cap [] (zt v))[i]?=some m:=hm
  rw [List.getElem?_map] at hm';obtain⟨j, -,rfl⟩:=Option.map_eq_some_iff.1 hm';exact vj.new h1 h2
 ·have hs':(List.replicate n yV)[i]?=some s:=hs
  rw [List.getElem?_replicate] at hs'
  split at hs'
  ·cases hs';exact⟨by simp [yV],by simp [yV],by simp [yV]⟩
  ·cases hs'
 ·simp [qW,zD] at hi
 ·simp [qW] at hx
 ·simp [qW] at hx
end
open Go Go.RowKit Go.Shelf Go.Extern.Stop Go.Stop Go.Extern
attribute [local go_sem] Oper.semAt_some zv zm
theorem zhG {S:zf}(hl:S.last<4294967295)(d:Int)(s:List UInt8):yq S d s=({S with last:=(ys S.last S.notes d s).1,notes:=(ys S.last S.notes d s).2.1},(ys S.last S.notes d s).2.2):=by
 unfold yq ys;rw [Nat.mod_eq_of_lt (by omega)]
 split<;>rfl
structure zal(S:zf):Prop where
 notes:S.notes.length<=1000
 last:S.last<4294967000
 n0:1<=S.nodes.length/\S.nodes.length<=16
theorem zu.room {v:Int}{k L:Nat}{S:zf}(h:zu v k L S)(hL:L<=3000000000):zal S:=⟨h.notesN,by have:=h.last;omega,h.n0⟩
def XS(S:zf)(k s d:Nat)(data:List UInt8):zf:=if(qr (qu k s d data)).2=0 then {S with last:=(ys S.last S.notes d (qr (qu k s d data)).1).1,notes:=(ys S.last S.notes d (qr (qu k s d data)).1).2.1} else S
theorem Vi {S:zf}(h:S.last<4294967295)(k s d:Nat)(inst:Int)(ballot:Nat)(more:List UInt8):XS S k s d (xF inst ballot more)=yY S (ji k s d inst ballot more):=by
 unfold XS yY
 show _=if(qr (qu k s d (xF inst ballot more))).2=0 then(yq S (d:Int) (qr (qu k s d (xF inst ballot more))).1).1 else S
 rw [zhG h]
theorem Xi(B:Nat)(K:WK)(S:zf)(t:List Nat)(ow:Own)(b k s d:Nat)(hk:k<=31)(hs:s<16)(hd:d<16)(data:List UInt8)(hl:data.length<=1000000)(w:World)(h:zL B K S t ow w)(hg1:S.notes.length<=1000)(hg2:S.last<4294967295)(hb:Blk w b (zk5 k s d data) 182):
 Calls prog 144 #[.pointer (some ⟨B,0,none⟩),.slice (some ⟨b,0,none⟩) 1 1] w (xZ B K (XS S k s d data) t ow w (.tuple #[])):=by
 obtain⟨tv,lp,hI⟩:=h;have hB:=hI.blk;have hen:=λW=>zdg k s d data hk hs hd hl W
 have hfl:=λW hW=>zfA K.fb S.last S.notes hg2 (t++ [16]) ow (d:Int) (by omega) (by omega) (qr (qu k s d data)).1 W hW hg1
 unfold Jj at hen;unfold zk5 at hb;obtain⟨S',hS'⟩:∃S',XS S k s d data=S':=⟨_,rfl⟩;have hS2:=hS';unfold XS at hS2;rw [hS']
 generalize qr (qu k s d data)=q at*
 obtain⟨q1,q2⟩:=q;simp only at hen hfl hS2;replace hen:=hid hen;replace hfl:=hid hfl
 by_cases hq:q2=0
 ·rw [if_pos hq] at hS2
  have t1:(q2==0)=true:=by simp [hq]
  replace hS':=hid hS';replace hS2:=hid hS2;replace hq:=hid hq
  go_enter func144,ntmps144
  go_wp2
  go_loopw [10] (λp10 wr=>(p10=.int .i64 0/\wr=w)∨(p10=.int .i64 1/\xZ B K S' t ow w (.tuple #[]) (.returned (.tuple #[])) wr)) (λp10 _=>1 - (intOf p10).toNat)
  case atStart=>exact .inl ⟨rfl,rfl⟩
  case round=>
   rcases hrel with⟨rfl,rfl⟩|⟨rfl,hp⟩
   ·
     have c0:=hb.cell;have e0:=hB.cell;go_wp2_with fail
     refine(hen.out _).mono ?_;rintro e w1⟨rfl,hb1⟩;have hbw:Below wr.heap.size wr w1:=pbx;have k5:Blk w1 wr.heap.size #[.int .i64 1,.int .i64 k,.int .i64 s,.int .i64 d,.int .u32 0,.int .u32 0,.int .u32 0,.int .u32 0,.string (bs data)] 182:=(Blk.new rfl).call hb1;have kB1:=hB.call hbw;clear c0 e0;go_wp2_with fail
     refine zd [O 0,O 1,O 2,O 3,O 4,O 5,O 6,E 7] (some 7) (λw'=>Blk w' B #[.slice (some ⟨K.nb,0,none⟩) S.nodes.length K.nc,.slice (some ⟨K.sb,0,none⟩) S.nodes.length S.nodes.length,.map (some K.lm),.pointer (some ⟨K.fb,0,none⟩),.map (some K.hm),.map (some K.dm),tv] 65/\Blk w' wr.heap.size #[.int .i64 1,.int .i64 k,.int .i64 s,.int .i64 d,.int .u32 0,.int .u32 0,.int .u32 0,.int .u32 0,.string (bs data)] 182/\True) (by kernel_rfl) (by kernel_rfl) ⟨kB1.drew,k5.drew,trivial⟩ ?_
     (repeat (refine za (v:=?_) rfl rfl (λw' h=>?_) (λK k=>?_);rotate_left;obtain⟨f1,f2,_⟩:=h;have e1:=f1.cell;have e2:=f2.cell;go_simp;(try with_reducible rfl);go_simp;refine k _ ?_;clear k K))
     refine zc rfl (λK hK=>?_);go_wp2_with fail
     refine(hfl.out _ ((jL.loc _ _ _ _).below hI.flight (zo hbw))).mono ?_;rintro e w2⟨rfl,ow2,hs2,hF⟩;go_wp2;refine hK.out _ _ (λhh=>absurd rfl hh) ?_;clear hK;refine ze ?_;have hI2:=((zk.loc _ _ _ _ _ _).below hI (zo hbw)).setFlight hs2 hF;go_wp2
     go_roundw
     case rel=>exact .inr ⟨rfl,rfl,ow2,(zq.of_below t ow (zo hbw)).trans (hs2.mono (Sub.child t 16)),by rw [← hS2.out];exact⟨_,_,hI2⟩⟩
     case measure=>simp [intOf]
   ·obtain⟨-,ow',hs',hW'⟩:=hp
    go_wp2;go_end0
    exact⟨rfl,ow',hs',hW'⟩
 ·rw [if_neg hq] at hS2
  have t1:(q2==0)=false:=by simp [hq]
  replace hS':=hid hS';replace hS2:=hid hS2;replace hq:=hid hq
  go_enter func144,ntmps144
  go_wp2
  go_loopw [10] (λp10 wr=>(p10=.int .i64 0/\wr=w)∨(p10=.int .i64 1/\xZ B K S' t ow w (.tuple #[]) (.returned (.tuple #[])) wr)) (λp10 _=>1 - (intOf p10).toNat)
  case atStart=>exact .inl ⟨rfl,rfl⟩
  case round=>
   rcases hrel with⟨rfl,rfl⟩|⟨rfl,hp⟩
   ·
     have c0:=hb.cell;have e0:=hB.cell;go_wp2_with fail
     refine(hen.out _).mono ?_;rintro e w1⟨rfl,hb1⟩;have hbw:Below wr.heap.size wr w1:=pbx;have k5:Blk w1 wr.heap.size #[.int .i64 1,.int .i64 k,.int .i64 s,.int .i64 d,.int .u32 0,.int .u32 0,.int .u32 0,.int .u32 0,.string (bs data)] 182:=(Blk.new rfl).call hb1;have kB1:=hB.call hbw;clear c0 e0;have hI2:=(zk.loc _ _ _ _ _ _).below hI hbw;go_wp2
     go_roundw
     case rel=>exact .inr ⟨rfl,rfl,ow,zq.of_below t ow hbw,by rw [← hS2.out];exact⟨_,_,hI2⟩⟩
     case measure=>simp [intOf]
   ·obtain⟨-,ow',hs',hW'⟩:=hp
    go_wp2;go_end0
    exact⟨rfl,ow',hs',hW'⟩
theorem zfM(S:zf)(f:yQ)(hn:S.notes.length<=1000)(hl:S.last<4294967295):(yY S f).notes.length<=1000/\(yY S f).last<=S.last+1/\(yY S f).nodes=S.nodes:=by
 refine⟨?_,?_,(xH S f).1⟩
 ·unfold yY yq
  split
  ·split
   ·exact hn
   ·show(S.notes++ [_]).length<=_
    rw [N1,U2];omega
  ·exact hn
 ·unfold yY yq
  split
  ·split
   ·show S.last<=_;omega
   ·show(S.last+1)% 4294967296<=_;omega
  ·omega
def qR(S:zf)(kind src inst:Int)(ballot:Nat)(more:List UInt8)(j:Nat):zf:=(List.range j).foldl (λw (i:Nat)=>yY w (ji kind src i inst ballot more)) S
theorem Xj(S:zf)(kind src inst:Int)(ballot:Nat)(more:List UInt8)(j:Nat):qR S kind src inst ballot more (j+1)=yY (qR S kind src inst ballot more j) (ji kind src j inst ballot more):=by
 unfold qR;rw [List.range_succ,List.foldl_append];rfl
theorem Xk {S:zf}(h:zal S)(kind src inst:Int)(ballot:Nat)(more:List UInt8):∀(j:Nat),j<=16->(qR S kind src inst ballot more j).notes.length<=1000/\(qR S kind src inst ballot more j).last<=S.last+j/\(qR S kind src inst ballot more j).nodes=S.nodes
 |0,_=>⟨h.notes,N0 _,rfl⟩
 |j+1,hj=>by
  obtain⟨h1,h2,h3⟩:=Xk h kind src inst ballot more j (by omega);rw [Xj];have h4:=zfM (qR S kind src inst ballot more j) (ji kind src j inst ballot more) h1 (by have:=h.last;omega);exact⟨h4.1,by omega,h4.2.2.trans h3⟩
theorem Zk(B:Nat)(K:WK)(S:zf)(t:List Nat)(ht:t≠ [])(ow:Own)(k s:Nat)(hk:k<=31)(hs:s<16)(inst:Int)(ballot:Nat)(v:Value)(ts:List (List UInt8))(w:World)(h:zL B K S t ow w)(hg:zal S)
 (hv:Src w v 1 ts.length (yD ts)) (hn:ts.length<=1000) (hl:ts.flatten.length<=900000) (hv0:∀a l c,v=.slice (some a) l c->ow a.block=[]):
 Calls prog 98 #[.pointer (some ⟨B,0,none⟩),.int .i64 k,.int .i64 s,xE inst ballot,v] w (xZ B K (j0 S k s inst ballot ts.flatten) t ow w (.tuple #[])):=by
 have hlt:=λ(j:Nat) W hW=>Zz k s j inst ballot v ts W hW hn (by omega)
 have hsd:=λ(j:Nat) hj ow W b hW h1 h2 hb=>Xi B K (qR S k s inst ballot ts.flatten j) t ow b k s j hk hs hj (xF inst ballot ts.flatten) (by unfold xF;rw [N1,show(le4 (inst % 4294967296).toNat++le8 ballot).length=12 from rfl];omega) W hW h1 h2 hb
 obtain⟨N,hN⟩:∃N,S.nodes.length=N:=⟨_,rfl⟩;have hN16:N<=16:=by have:=hg.n0;omega
 have h':=h;obtain⟨tv0,lp0,hI0⟩:=h';have hB0:=hI0.blk;have hlB:=hB0.lt;have hsA:j0 S k s inst ballot ts.flatten=qR S k s inst ballot ts.flatten N:=by unfold j0 qR;rw [hN]
 rw [hsA];have hroom:=Xk hg k s inst ballot ts.flatten;have hsucc:=λ(j:Nat) h1=>(Vi (S:=qR S k s inst ballot ts.flatten j) h1 k s j inst ballot ts.flatten).trans (Xj S k s inst ballot ts.flatten j).symm
 have hla:=hg.last;have hb1:Below w.heap.size w (w.alloc (.cells #[.int .i64 inst,.int .u64 (ballot:Nat)] 171)):=pbx;have hI1:=(zL.loc B K S t).cut h hb1;have km:Blk (w.alloc (.cells #[.int .i64 inst,.int .u64 (ballot:Nat)] 171)) w.heap.size #[.int .i64 inst,.int .u64 (ballot:Nat)] 171:=Blk.new rfl;have hv1:=hv.below hb1
 have hvn:∀a l c,v=.slice (some a) l c->¬Sub t ((ow.cut w) a.block):=λa l c e=>by
  by_cases hlt:a.block<w.heap.size
  ·rw [Own.cut_old hlt,hv0 a l c e];exact zj ht
  ·rw [Own.cut_new (by omega)];exact zj ht
 obtain⟨w1,hw1⟩:∃w1,w1=w.alloc (.cells #[.int .i64 inst,.int .u64 (ballot:Nat)] 171):=⟨_,rfl⟩;have hz1:w1.heap.size=w.heap.size+1:=by rw [hw1];simp
 rw [← hw1] at hb1 hI1 km hv1;have e0:=hB0.cell;have e1:=(hB0.call hb1).cell
 generalize hoc:ow.cut w=ow1 at*
 rw [hN] at e0 e1
 obtain⟨va,vn,vc,rfl⟩:∃a n c,v=.slice a n c:=by
  rcases hv.2 with⟨rfl, -⟩|⟨b,off,cap,rfl, -⟩<;>exact⟨_,_,_,rfl⟩
 unfold xE at*;replace hlt:=hid hlt;replace hsd:=hid hsd;replace hsA:=hid hsA;replace hroom:=hid hroom;replace hsucc:=hid hsucc;replace hvn:=hid hvn;replace hoc:=hid hoc;replace hv1:=hid hv1;replace km:=hid km;clear hv hv0 h hB0 hI0
 go_enter func98,ntmps98
 go_wp2;rw [← hw1]
 go_loopw [16] (λp16 wr=>∃(j:Nat)(ow':Own),p16=.int .i64 (j:Nat)/\j<=N/\zq t ow1 w1 ow' wr/\zL B K (qR S k s inst ballot ts.flatten j) t ow' wr) (λp16 _=>N - (intOf p16).toNat)
 case atStart=>exact⟨0,ow1,rfl,by omega,zq.refl _ _ _,hI1⟩
 case round=>
  obtain⟨j,ow',rfl,hj,hst,hW⟩:=hrel;clear e0 e1
  by_cases hjN:j<N
  ·have t2:decide ((j:Int)<(N:Int))=true:=by simpa using hjN
   have hwj:IntKind.i64.wrap ((j:Int)+1)=(j:Int)+1:=by rw [N8];omega
   have hfr:=hst;rw [← hoc.out] at hfr;have hm:=hfr.free ht (k:=w.heap.size) (N0 _) (by omega);have cm:=(km.out.kept hm.1).cell;have hvr:=hv1.out.step hst (λa l c e=>hvn.out a l c e);go_wp2_with fail
   refine(hlt.out j _ hvr).mono ?_;rintro e w2⟨rfl,hb2⟩;unfold Jj;have hrj:=hroom.out j (by omega);go_wp2_with fail
   refine(hsd.out j (by omega) ow' _ _ ((zL.loc B K _ t).below hW (zi hb2 _)) hrj.1 (by omega) (Blk.new rfl)).mono ?_;rintro e w3⟨rfl,ow3,hs3,hW3⟩;rw [hsucc.out j (by omega)] at hW3;clear cm;go_wp2
   go_roundw
   case rel=>exact⟨j+1,ow3,by simp,by omega,hst.trans ((zq.of_below t ow' (zi hb2 _)).trans hs3),hW3⟩
   case measure=>simp [intOf];omega
  ·obtain rfl:j=N:=by omega
   have t2:decide ((j:Int)<(j:Int))=false:=by simp
   go_wp2;go_end0
   have hfr:=hst;rw [← hoc.out] at hfr;exact⟨rfl,ow',zq.wrap hb1 hfr,hW⟩
theorem XT(b:Nat)(w:World):(binOp .eql 63 (.map (some b)) (.map none)).run prog w=.ok (.bool false) w:=by kernel_rfl
variable {B:Nat}{K:WK}{tv:Value}{lp:Nat->Option Nat}{S:zf}{t:List Nat}{ow:Own}
theorem Vj(w:World)(h:zk B K tv lp S t ow w):Calls prog 26 #[.pointer (some ⟨B,0,none⟩)] w λe w'=>e=.returned (.bool false)/\w'=w:=by
 have e0:=h.blk.cell;have h0:=XT K.dm w;clear h
 go_enter func26,ntmps26
 go_wp2;go_ret
 exact⟨rfl,rfl⟩
theorem Xl(i:Int)(w:World)(h:zk B K tv lp S t ow w):Calls prog 31 #[.pointer (some ⟨B,0,none⟩),.int .i64 i] w λe w'=>e=.returned (.bool (decide (0<=i)&& decide (i<(S.nodes.length:Int))))/\w'=w:=by
 have e0:=h.blk.cell;clear h
 cases h0:decide (0<=i)
 ·go_enter func31,ntmps31
  go_wp2;go_ret
  exact⟨rfl,rfl⟩
 ·cases h1:decide (i<(S.nodes.length:Int))
  ·go_enter func31,ntmps31
   go_wp2;go_ret
   exact⟨rfl,rfl⟩
  ·go_enter func31,ntmps31
   go_wp2;go_ret
   exact⟨rfl,rfl⟩
theorem zdj(k:Int)(w:World):Calls prog 30 #[.int .i64 k] w λe w'=>e=.returned (.bool (!(decide (3<=k)&& decide (k<=6))))/\w'=w:=by
 by_cases h:3<=k/\k<=6
 ·rw [show(!(decide (3<=k)&& decide (k<=6)))=false by simp;omega]
  rcases(by omega:k=3∨k=4∨k=5∨k=6)with rfl|rfl|rfl|rfl
  all_goals
   clear h
   go_enter func30,ntmps30
   go_wp2;go_ret
   exact⟨rfl,rfl⟩
 ·rw [show(!(decide (3<=k)&& decide (k<=6)))=true by simp;omega]
  have t1:(k==3)=false:=by simp;omega
  have t2:(k==4)=false:=by simp;omega
  have t3:(k==5)=false:=by simp;omega
  have t4:(k==6)=false:=by simp;omega
  clear h
  go_enter func30,ntmps30
  go_wp2;go_ret
  exact⟨rfl,rfl⟩
theorem Ja(w:World)(h:zk B K tv lp S t ow w)(hn:S.notes.length<=1000):Calls prog 65 #[.pointer (some ⟨B,0,none⟩)] w λe w'=>e=.returned (.int .i64 (S.notes.length:Nat))/\Below w.heap.size w w':=by
 have hi:=Vj w h;have ha:=zht K.fb S.last S.notes (t++ [16]) ow w h.flight hn;have e0:=h.blk.cell;replace hi:=hid hi;replace ha:=hid ha;clear h
 go_enter func65,ntmps65
 go_wp2_with fail
 refine hi.out.mono ?_;rintro e w1⟨rfl,hw1⟩;obtain rfl:=hw1.symm;go_wp2_with fail
 refine ha.out.mono ?_;rintro e w2⟨v',rfl,h1,h2⟩;obtain⟨a,m,c,hv⟩:=h1.shape
 have hm:m=S.notes.length:=by
  rcases h1.form with⟨h,h0, -⟩|⟨g,cap,h, -⟩
  ·rw [h] at hv;cases hv;exact h0.symm
  ·rw [h] at hv;cases hv;rfl
 subst hm;subst hv
 go_wp2;go_ret
 exact⟨rfl,h2⟩
def zkW(S:zf)(p:Int):Nat×Bool:=if p<0 then(0,false)else match S.notes[p.toNat]? with
 |none=>(0,false)
 |some x=>(x.1,true)
