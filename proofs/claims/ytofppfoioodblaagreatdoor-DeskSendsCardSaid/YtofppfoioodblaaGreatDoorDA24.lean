/- PARTS OF THE PROOF. -/
import Derived.Test.YtofppfoioodblaaGreatDoorDA23
set_option maxRecDepth 8000
set_option maxHeartbeats 4000000
namespace Go.Proofs.YtofppfoioodblaaGreatDoor
section
open Go
variable {v:Int}{k L:Nat}{S:zf}
theorem Qb {K V:Type} [DecidableEq K] {i j:K}(h:i≠j):∀(l:List (K×V)),zH i (del j l)=zH i l
 | []=>rfl
 |(a,b)::l=>by
  unfold del
  by_cases hj:j=a
  ·rw [if_pos hj];subst hj
   conv=>rhs;unfold zH
   rw [if_neg h]
  rw [if_neg hj]
  unfold zH;rw [Qb h l]
theorem zas {f:yQ}(h:Yu f=true):f.data.length<=4096:=by
 unfold Yu at h;simp only [Bool.and_eq_true,decide_eq_true_eq] at h;exact h.1.1.1.1.1.2
theorem Vn {f:yQ}(h:(qU f).2=0):Yu f=true:=by
 unfold qU at h
 split at h
 ·simp at h
 rename_i h1;simpa using h1
theorem zky {f:yQ}(h:(qU f).2=0):(qU f).1.length<=5000:=by
 have hd:=zas (Vn h);have hr:=Vn h;unfold qU;rw [if_neg (by rw [hr];simp)];unfold Zh;simp only [N1,zY,List.length_cons,List.length_nil]
 split<;>simp [zY] <;>omega
theorem qD.dec {n:Nat}{dst:Int}{s:List UInt8}(h:qD n dst s)(hn:n<=16)(hd:0<=dst/\dst<n):s.length<=5000/\(ZH s).isSome/\∃(kind src:Nat)(data:List UInt8),kind<=7/\src<n/\data.length<=4096/\zgf s=(qW kind src dst data,0)/\s=(qU (qW kind src dst data)).1:=by
 obtain⟨kind,src,data,h1,h2,h3,rfl⟩:=h;have aa:=zd8 (kind:=(kind:Int)) (src:=(src:Int)) (dst:=dst) (data:=data) (by omega) (by omega) (by omega) (by omega) hd.1 (by omega) h3;refine⟨zky aa.1,?_,kind,src,data,h1,h2,h3,aa.2,rfl⟩;have ho:=aa.2;unfold zgf at ho
 cases hq:ZH (qU (qW (kind:Int) (src:Int) dst data)).1 with
 |none=>rw [hq] at ho;simp at ho
 |some b=>rfl
theorem qE(S:zf)(d:Int)(s:List UInt8):(yr S d s).1.nodes=S.nodes/\(yr S d s).1.seats=S.seats/\(yr S d s).1.leads=S.leads/\(yr S d s).1.trace=S.trace/\(yr S d s).1.hurt=S.hurt:=by
 unfold yr
 split<;>exact⟨rfl,rfl,rfl,rfl,rfl⟩
theorem x9(S:zf)(f:yQ):(y8 S f).nodes=S.nodes/\(y8 S f).seats=S.seats/\(y8 S f).leads=S.leads/\(y8 S f).trace=S.trace/\(y8 S f).hurt=S.hurt:=by
 unfold y8
 split
 ·exact qE _ _ _
 exact⟨rfl,rfl,rfl,rfl,rfl⟩
theorem zr.launch(h:zr v k L S)(hL:L<=4000000000){d:Int}{s:List UInt8}(hd:0<=d/\d<S.nodes.length)(hf:ZH s=none/\s.length<=5000∨qD S.nodes.length d s)(hurt':List (Nat×Unit))
 (hh:∀i,zH i hurt'=none->zH i S.hurt=none) (hsum:zH (S.last+1) hurt'=none->qD S.nodes.length d s) (hroom:S.notes.length<1000):
 (yr S d s).2=(S.last+1,0)/\zr v k (L+1) {(yr S d s).1 with hurt:=hurt'} :=by
 have hw:(S.last+1)% 4294967296=S.last+1:=Nat.mod_eq_of_lt (by have:=h.last;omega);unfold yr;rw [if_neg (by omega),hw];refine⟨rfl,h.n0,h.nodes,h.seatsN,h.seats,h.leadsN,h.leads,?_,λx hx=>?_,?_,λx hx=>?_,?_,h.trace⟩
 ·show(S.notes++ [_]).length<=1000
  rw [N1,U2];omega
 ·rcases List.mem_append.1 hx with hx|hx
  ·have:=h.notes x hx
   exact⟨this.dst,this.form,λe=>this.sum (hh _ e)⟩
  rw [List.mem_singleton] at hx
  subst hx;exact⟨hd,hf,hsum⟩
 ·show((S.notes++ [(S.last+1,d,s)]).map (·.1)).Nodup
  rw [List.map_append,List.nodup_append];refine⟨h.ids,by simp,λa ha b hb=>?_⟩;obtain⟨x,hx,rfl⟩:=List.mem_map.1 ha;have h1:=h.least x hx;simp at hb
  omega
 ·rcases List.mem_append.1 hx with hx|hx
  ·have:=h.least x hx
   show x.1<=S.last+1
   omega
  rw [List.mem_singleton] at hx
  subst hx;exact N0 _
 have:=h.last
 show S.last+1<=L+1
 omega
theorem zr.send(h:zr v k L S)(hL:L<=4000000000){kind src dst inst:Int}{ballot:Nat}{more:List UInt8}(hk:0<=kind/\kind<=7)(hs:0<=src/\src<S.nodes.length)(hd:0<=dst/\dst<S.nodes.length):
 zr v k (L+1) (y8 S (ji kind src dst inst ballot more)):=by
 have hn:=h.n0;unfold y8
 split
 ·rename_i he
  have hl:=zas (Vn he)
  have aa:qD S.nodes.length dst (qU (ji kind src dst inst ballot more)).1:=⟨kind.toNat,src.toNat,(ji kind src dst inst ballot more).data,by omega,by omega,hl,by
   rw [show((kind.toNat:Nat):Int)=kind by omega,show((src.toNat:Nat):Int)=src by omega];rfl⟩
  by_cases hr:1000<=S.notes.length
  ·unfold yr;rw [if_pos hr];exact h.mono (N0 _) (by omega)
  have h1:=(h.launch hL (s:=(qU (ji kind src dst inst ballot more)).1) (d:=dst) hd (.inr aa) S.hurt (λ_ e=>e) (λ_=>aa) (by omega)).2
  rw [← (qE S dst (qU (ji kind src dst inst ballot more)).1).2.2.2.2] at h1;exact h1
 exact h.mono (N0 _) (by omega)
theorem zr.sends {kind src inst:Int}{ballot:Nat}{more:List UInt8}(hk:0<=kind/\kind<=7):∀(js:List Nat)(L:Nat)(S:zf),zr v k L S->L+js.length<=4000000000->0<=src/\src<S.nodes.length->(∀j∈js,j<S.nodes.length)->
 zr v k (L+js.length) (js.foldl (λw (i:Nat)=>y8 w (ji kind src i inst ballot more)) S)
 | [],L,S,h,_,_,_=>h
 |j::js,L,S,h,hL,hs,hj=>by
  have hjl:=hj j (List.mem_cons_self ..);simp only [List.length_cons] at hL⊢;have h1:=h.send (by omega) (kind:=kind) (src:=src) (dst:=(j:Int)) (inst:=inst) (ballot:=ballot) (more:=more) hk hs ⟨by omega,by omega⟩;have hn:=(x9 S (ji kind src j inst ballot more)).1;have h2:=zr.sends (inst:=inst) (ballot:=ballot) (more:=more) hk js (L+1) _ h1 (by omega) (by rw [hn];exact hs) (λi hi=>by rw [hn];exact hj i (U7 _ hi));rw [show L+(js.length+1)=L+1+js.length by omega];exact h2
theorem zr.sendAll(h:zr v k L S)(hL:L<=3000000000){kind src inst:Int}{ballot:Nat}{more:List UInt8}(hk:0<=kind/\kind<=7)(hs:0<=src/\src<S.nodes.length):zr v k (L+16) (j1 S kind src inst ballot more):=by
 have hn:=h.n0;have:=zr.sends (kind:=kind) (src:=src) (inst:=inst) (ballot:=ballot) (more:=more) hk (List.range S.nodes.length) L S h (by simp;omega) hs (λj hj=>List.mem_range.1 hj);rw [List.length_range] at this;exact this.mono (N0 _) (by omega)
theorem ziQ(n:Nat)(ps:List jE)(own:List UInt8)(ho:own.length<=5000)(hp:∀x∈ps,x.2.2.length<=5000):(Zo n ps own).1.length<=5000:=by
 unfold Zo
 split
 ·simp
 split
 ·simp
 have:∀(l:List jE)(x:jE),(∀y∈l,y.2.2.length<=5000)->x.2.2.length<=5000->(l.foldl (λ(b:jE) y=>if b.2.1<y.2.1 then y else b) x).2.2.length<=5000:=by
  intro l
  induction l with
  |nil=>intro x _ h;exact h
  |cons y l ih=>
   intro x hy hx;rw [List.foldl_cons];refine ih _ (λz hz=>hy z (U7 _ hz)) ?_
   split
   ·exact hy y (List.mem_cons_self ..)
   exact hx
 exact this ps (0,0,own) hp ho
theorem zr.countPromise(h:zr v k L S)(hL:L<=3000000000){i src:Nat}(hi:i<S.nodes.length)(hs:src<S.nodes.length)(inst:Int){ballot:Nat}(_hb:ballot<18446744073709551616){more:List UInt8}(hm:more.length<=5000):
 zr v k (L+16) (countPromise S i src inst ballot more):=by
 have hn:=h.n0;unfold Go.Proofs.YtofppfoioodblaaGreatDoor.countPromise
 cases hl:zH (i:Int) S.leads with
 |none=>exact h.mono (N0 _) (by omega)
 |some l=>
  have hg:=h.leads i l hl;simp only
  split
  ·exact h.mono (N0 _) (by omega)
  rename_i hc
  simp only [not_or,Bool.not_eq_true] at hc;obtain⟨c1,c2,c3,c4,c5⟩:=hc;have ab:src<l.promised.length:=by rw [hg.pn];omega
  have aa:zcZ {l with promised:=l.promised.set src true,promises:=l.promises++ [(ballot,zW more 0+4294967296*zW more 4,more.drop 8)] } :=
   ⟨hg.inst,hg.ballot,hg.value,by simp [hg.pn],hg.vn,by simp only [N1,U2,VO _ _ c4 ab,hg.pc],hg.vc,λy hy=>by
    rcases List.mem_append.1 hy with hy|hy
    ·exact hg.ps y hy
    rw [List.mem_singleton] at hy;subst hy;simp;omega⟩
  split
  ·exact(h.putLead i aa).mono (N0 _) (by omega)
  split
  ·exact(h.putLead i aa).mono (N0 _) (by omega)
  refine(h.putLead i ?_).sendAll hL ⟨by omega,by omega⟩ ⟨by omega,by show(i:Int)<S.nodes.length;omega⟩
  exact⟨hg.inst,hg.ballot,ziQ _ _ _ hg.value aa.ps,aa.pn,aa.vn,aa.pc,aa.vc,aa.ps⟩
theorem zr.countVote(h:zr v k L S)(hL:L<=3000000000){i src:Nat}(hi:i<S.nodes.length)(hs:src<S.nodes.length)(inst:Int)(ballot:Nat):
 zr v k (L+16) (countVote S i src inst ballot):=by
 have hn:=h.n0;unfold Go.Proofs.YtofppfoioodblaaGreatDoor.countVote
 cases hl:zH (i:Int) S.leads with
 |none=>exact h.mono (N0 _) (by omega)
 |some l=>
  have hg:=h.leads i l hl;simp only
  split
  ·exact h.mono (N0 _) (by omega)
  rename_i hc
  simp only [not_or,Bool.not_eq_true] at hc;obtain⟨c1,c2,c3,c4⟩:=hc;have ab:src<l.voted.length:=by rw [hg.vn];omega
  have aa:zcZ {l with voted:=l.voted.set src true,votes:=l.votes+1} :=
   ⟨hg.inst,hg.ballot,hg.value,hg.pn,by simp [hg.vn],hg.pc,by simp only [VO _ _ c4 ab,hg.vc],hg.ps⟩
  split
  ·exact(h.putLead i aa).mono (N0 _) (by omega)
  refine(h.putLead i ?_).sendAll hL ⟨by omega,by omega⟩ ⟨by omega,by show(i:Int)<S.nodes.length;omega⟩
  exact⟨aa.inst,aa.ballot,aa.value,aa.pn,aa.vn,aa.pc,aa.vc,aa.ps⟩
theorem zr.answer(h:zr v k L S)(hL:L<=3000000000){i:Nat}(hi:i<S.nodes.length){f:yQ}(hs:0<=f.src/\f.src<S.nodes.length)(inst:Int){ballot:Nat}(hb:ballot<18446744073709551616)(more:List UInt8):
 zr v k (L+16) (yN S i f inst ballot more):=by
 have ab:0<=(i:Int)/\(i:Int)<S.nodes.length:=⟨by omega,by omega⟩;have hg:=(h.node hi).2;unfold yN
 split
 ·exact(h.send (by omega) ⟨by omega,by omega⟩ ab hs).mono (N0 _) (by omega)
 split
 ·simp only
  have h1:=h.setNode i (hg.castX inst ballot more hb);have aa:(Go.Proofs.YtofppfoioodblaaGreatDoor.setNode S i (yH (zn S i) inst ballot more).1).nodes.length=S.nodes.length:=by simp [Go.Proofs.YtofppfoioodblaaGreatDoor.setNode]
  split
  ·exact(h1.send (by omega) ⟨by omega,by omega⟩ (by rw [aa];exact ab) (by rw [aa];exact hs)).mono (N0 _) (by omega)
  exact h1.mono (N0 _) (by omega)
 simp only
 have h1:=h.setNode i (hg.promise inst ballot hb);have aa:(Go.Proofs.YtofppfoioodblaaGreatDoor.setNode S i (zy (zn S i) inst ballot).1).nodes.length=S.nodes.length:=by simp [Go.Proofs.YtofppfoioodblaaGreatDoor.setNode]
 split
 ·exact(h1.send (by omega) ⟨by omega,by omega⟩ (by rw [aa];exact ab) (by rw [aa];exact hs)).mono (N0 _) (by omega)
 exact h1.mono (N0 _) (by omega)
theorem zr.receive(h:zr v k L S)(hL:L<=3000000000){i:Nat}(hi:i<S.nodes.length){f:yQ}(hs:0<=f.src/\f.src<S.nodes.length)(hd:f.data.length<=4096):zr v k (L+16) (yG S i f):=by
 have b1:=Z5 ((f.data.drop 4).take 4);have b2:=Z5 ((f.data.drop 8).take 4);have hb:zW f.data 4+4294967296*zW f.data 8<18446744073709551616:=by unfold zW;omega
 unfold yG
 split
 ·exact h.mono (N0 _) (by omega)
 simp only
 split
 ·exact h.answer hL hi hs _ hb _
 split
 ·exact h.countPromise hL hi (by omega) _ hb (by rw [U3];omega)
 split
 ·exact h.countVote hL hi (by omega) _ _
 split
 ·exact((h.stale hi).setNode i ((h.node hi).2.learnX _ _)).mono (N0 _) (by omega)
 exact h.mono (N0 _) (by omega)
theorem zr.erase(h:zr v k L S){p:Nat}{x:zgg}(hx:S.notes[p]?=some x):zr v k L {S with notes:=S.notes.eraseIdx p,hurt:=del x.1 S.hurt} :=by
 have aa:=List.eraseIdx_sublist S.notes p;refine⟨h.n0,h.nodes,h.seatsN,h.seats,h.leadsN,h.leads,Nat.le_trans aa.length_le h.notesN,λy hy=>?_,h.ids.sublist (aa.map _),λy hy=>h.least y (aa.subset hy),h.last,h.trace⟩;have ad:=h.notes y (aa.subset hy);refine⟨ad.dst,ad.form,λe=>ad.sum ?_⟩
 have ae:y.1≠x.1:=λe=>by
  obtain⟨j,hj⟩:=List.mem_iff_getElem?.1 hy;rw [List.getElem?_eraseIdx] at hj;have hp:=h.ids;rw [List.nodup_iff_pairwise_ne,List.pairwise_iff_getElem] at hp;have ac:=(N6.1 hx)
  split at hj
  ·rename_i hjp
   have ab:=(N6.1 hj);have:=hp j p (by simpa using ab.1) (by simpa using ac.1) hjp;simp [ab.2,ac.2,e] at this
  rename_i hjp
  have ab:=(N6.1 hj);have:=hp p (j+1) (by simpa using ac.1) (by simpa using ab.1) (by omega);simp [ab.2,ac.2,e] at this
 rwa [Qb ae] at e
theorem zr.take(h:zr v k L S)(hL:L<=3000000000)(p:Int):zr v k (L+16) (xL S p).1:=by
 unfold xL
 split
 ·exact h.mono (N0 _) (by omega)
 split
 ·exact h.mono (N0 _) (by omega)
 rename_i id dst s hx
 have h1:=h.erase hx;have aa:=h.notes _ (List.mem_of_getElem? hx);simp only
 split
 ·rename_i hc
  have hd:0<=dst/\dst<(S.nodes.length:Int):=aa.dst
  rcases aa.form with hf|hf
  ·exfalso
   have h2:=hc.1;unfold zgf at h2;rw [hf.1] at h2;simp at h2
  obtain⟨-, -,kind,src,data,k1,k2,k3,k4, -⟩:=hf.dec h.n0.2 aa.dst
  rw [k4];exact h1.receive hL (by show dst.toNat<S.nodes.length;omega) ⟨by show 0<=(src:Int);omega,by show(src:Int)<(S.nodes.length:Int);omega⟩ k3
 exact h1.mono (N0 _) (by omega)
theorem zr.drop(h:zr v k L S)(p:Int):zr v k L (zh7 S p).1:=by
 unfold zh7
 split
 ·exact h
 split
 ·exact h
 rename_i id dst s hx
 exact h.erase hx
theorem vm.few {n:zq}(h:vm v n):n.acc.length<=116508/\n.loc.log.length<=640000:=by
 have hb:=h.ok.bounds;have:=hb.2.2.2.len;omega
theorem zr.tellOne(h:zr v k L S)(d:Bool){i:Nat}(hi:i<S.nodes.length):zr v k L (tellOne S d i):=by
 have hs:=h.seat hi;have hb:=h.seats i _ hs;have hf:=(h.node hi).2.few;have ht:=h.trace
 have ab:∀(s':jV)(tr:List Yv),s'.greatest=(jj S i).greatest->s'.accepted<=116508->s'.delivered<=640000->tr.length+((jj S i).accepted+(jj S i).delivered)<=s'.accepted+s'.delivered->zr v k L {Go.Proofs.YtofppfoioodblaaGreatDoor.setSeat S i s' with trace:=S.trace++tr} :=by
  intro s' tr h1 h2 h3 h4;have ac:=ziO (s':=s') (λs=>s.accepted+s.delivered) hs;refine⟨h.n0,h.nodes,by simpa [Go.Proofs.YtofppfoioodblaaGreatDoor.setSeat] using h.seatsN,λj s hj=>?_,h.leadsN,h.leads,h.notesN,h.notes,h.ids,h.least,h.last,?_⟩
  ·have aa:(S.seats.set i s')[j]?=some s:=hj
   by_cases hij:i=j
   ·subst hij
    rw [List.getElem?_set_self (by rw [h.seatsN];exact hi)] at aa
    cases aa
    rw [h1];exact⟨hb.1,h2,h3⟩
   rw [List.getElem?_set_ne hij] at aa;exact h.seats j s aa
  show(S.trace++tr).length<=k+((S.seats.set i s').map λs=>s.accepted+s.delivered).sum
  rw [N1];omega
 unfold Go.Proofs.YtofppfoioodblaaGreatDoor.tellOne;simp only
 split
 ·split
  ·refine ab _ _ rfl hb.2.1 ?_ ?_
   ·show max _ _<=_;omega
   rw [List.length_map,U3]
   show _<=(jj S i).accepted+max _ _
   omega
  refine ab _ _ rfl ?_ hb.2.2 ?_
  ·show max _ _<=_;omega
  rw [List.length_map,U3]
  show _<=max _ _+(jj S i).delivered
  omega
 exact h
theorem YO(S:zf)(d:Bool)(i:Nat):(tellOne S d i).nodes=S.nodes:=by
 unfold tellOne;simp only
 split
 ·split<;>rfl
 rfl
theorem zr.tells(d:Bool):∀(js:List Nat)(S:zf),zr v k L S->(∀j∈js,j<S.nodes.length)->zr v k L (js.foldl (λw i=>Go.Proofs.YtofppfoioodblaaGreatDoor.tellOne w d i) S)
 | [],S,h,_=>h
 |j::js,S,h,hj=>by
  rw [List.foldl_cons];exact zr.tells d js _ (h.tellOne d (hj j (List.mem_cons_self ..))) (λi hi=>by rw [YO];exact hj i (U7 _ hi))
theorem qn(d:Bool):∀(js:List Nat)(S:zf),(js.foldl (λw i=>tellOne w d i) S).nodes=S.nodes
 | [],_=>rfl
 |j::js,S=>by rw [List.foldl_cons,qn d js,YO]
theorem zr.tell(h:zr v k L S):zr v k L (xp S):=by
 unfold xp;have h1:=zr.tells false (List.range S.nodes.length) S h (λj hj=>List.mem_range.1 hj);exact zr.tells true _ _ h1 (λj hj=>by rw [qn];exact List.mem_range.1 hj)
theorem zc0(known:List (Int×List UInt8)):∀(f i:Nat),JG known f i<=i+f
 |0,i=>N0 _
 |f+1,i=>by
  unfold JG
  split
  ·have:=zc0 known f (i+1);omega
  omega
theorem vm.next {n:zq}(h:vm v n):yE n<=30000:=by
 have:=zc0 n.pax.known 10001 (n.applied+1);have hb:=h.ok.bounds;unfold yE;omega
theorem YP(n:zq):(jN n).1.length<=4000:=by
 unfold jN
 split
 ·simp
 split
 ·exact Qa _
 split
 ·exact Qa _
 exact VP _ _ _ _ (by simp)
theorem zbq {b node:Nat}(_:(jt b node).2=0):(jt b node).1<=1152921504606847008:=by
 unfold jt
 split
 ·omega
 rename_i h
 split<;>simp only<;>omega
theorem zr.propose(h:zr v k L S)(hL:L<=3000000000){i:Nat}(hi:i<S.nodes.length):zr v k (L+16) (yo S i).1:=by
 unfold yo
 split
 ·exact h.mono (N0 _) (by omega)
 split
 ·exact h.mono (N0 _) (by omega)
 rename_i hb
 have aa:(jt (jj S i).greatest i).2=0:=by simpa using hb
 have ab:=zbq aa;simp only;have ac:=(h.node hi).2.next;have h1:=h.setSeat hi {jj S i with greatest:=(jt (jj S i).greatest i).1} ⟨ab,rfl,rfl⟩
 have h2:=h1.putLead i (l:={inst:=yE (zn S i),ballot:=(jt (jj S i).greatest i).1,value:=(jN (zn S i)).1,promises:=[],promised:=List.replicate 16 false,voted:=List.replicate 16 false,votes:=0,asked:=false,told:=false})
  ⟨⟨by show 0<=((yE (zn S i):Nat):Int);omega,by show((yE (zn S i):Nat):Int)<=30000;omega⟩,by show(jt _ _).1<_;omega,Nat.le_trans (YP _) (by omega),by simp,by simp,by simp,by simp,by simp⟩
 exact h2.sendAll hL ⟨by omega,by omega⟩ ⟨by omega,by show(i:Int)<S.nodes.length;omega⟩
def zc1(k:Int):Prop:=k=1∨k=2∨k=3∨k=10
theorem zr.deedA(h:zr v k L S)(hL:L<=3000000000)(o:OpD)(hs:o.s.length<=300)(hk:zc1 o.kind)(hi:o.kind≠3->o.node.toNat<S.nodes.length):zr v k (L+16) (vz S (zt v) o).1:=by
 have h0:=h.mono (N0 k) (show L<=L+16 by omega);unfold vz;simp only
 rcases hk with e|e|e|e<;>have hl:=hi<;>(repeat rw [if_neg (by omega)])<;>rw [if_pos e]
 ·exact(h0.stale (hl (by omega))).setNode _ ((h.node (hl (by omega))).2.broadcast _ hs)
 ·exact h.propose hL (hl (by omega))
 ·exact h.take hL _
 exact h0.setNode _ ((h.node (hl (by omega))).2.want _)
theorem zr.does_of(h:zr v k L S)(s:StD)(o:OpD)(hd:1<=o.kind/\o.kind<=10->(¬(3<=o.kind/\o.kind<=6)->o.node.toNat<S.nodes.length)->zr v k (L+16) (vz S s o).1):zr v (k+1) (L+16) (doW s S o).1:=by
 unfold doW
 split
 ·exact h.mono (by omega) (by omega)
 split
 ·exact h.mono (by omega) (by omega)
 rename_i h1 h2
 have ht:=(hd (by omega) (λhk=>by
  have:¬(o.node<0∨(S.nodes.length:Int)<=o.node):=λe=>h2 ⟨hk,e⟩
  omega)).tell
 simp only
 split
 ·refine⟨ht.n0,ht.nodes,ht.seatsN,ht.seats,ht.leadsN,ht.leads,ht.notesN,ht.notes,ht.ids,ht.least,ht.last,?_⟩
  have:=ht.trace
  show((xp _).trace++ [_]).length<=_
  rw [N1,U2]
  show _<=k+1+((xp (vz S s o).1).seats.map λs=>s.accepted+s.delivered).sum
  omega
 exact ht.mono (by omega) (N0 _)
theorem zr.doesA(h:zr v k L S)(hL:L<=3000000000)(o:OpD)(hs:o.s.length<=300)(hk:zc1 o.kind):zr v (k+1) (L+16) (doW (zt v) S o).1:=
 h.does_of _ o (λ_ hi=>h.deedA hL o hs hk (λh3=>hi (by unfold zc1 at hk;omega)))
theorem ziR {v cap:Int}{n:Nat}(hn:1<=n/\n<=16)(h1:64<=cap)(h2:cap<=1048576):zr v 0 0 (Zn n v cap (zt v)):=by
 have hl:(Zn n v cap (zt v)).nodes.length=n:=by simp [Zn]
 refine⟨by rw [hl];exact hn,λi m hm=>?_,by rw [hl];simp [Zn],λi s hs=>?_,by simp [Zn],λi l hi=>?_,by simp [Zn],λx hx=>?_,by simp [Zn],λx hx=>?_,N0 _,by simp [Zn]⟩
 ·have ab:((List.range n).map λ(i:Nat)=>zhq i v cap [] (zt v))[i]?=some m:=hm
  rw [List.getElem?_map] at ab;obtain⟨j, -,rfl⟩:=Option.map_eq_some_iff.1 ab;exact vm.new h1 h2
 ·have aa:(List.replicate n yX)[i]?=some s:=hs
  rw [List.getElem?_replicate] at aa
  split at aa
  ·cases aa;exact⟨by simp [yX],by simp [yX],by simp [yX]⟩
  cases aa
 ·simp [Zn,zH] at hi
 ·simp [Zn] at hx
 simp [Zn] at hx
end
open Go
abbrev ZK:=Nat×Nat
def jy(S:zf)(p:ZK):Option ZK:=
 if p.1=0 then(if p.2<S.nodes.length then(if(zn S p.2).down then none else some (0,p.2+1))else some (1,0))
 else if p.1=1 then(if p.2<S.nodes.length then(if zfc S p.2 then none else some (2,p.2))else none)
 else(if S.notes.length=0 then some (1,p.2+1)else none)
def zk6(S:zf)(p:ZK):Prop:=p.1=1/\S.nodes.length<=p.2
def VQ(p:ZK):OpD:=if p.1=0 then⟨9,p.2,0,0,0,[]⟩else if p.1=1 then⟨2,p.2,0,0,0,[]⟩else⟨3,0,0,0,0,[]⟩
def ziS(p:ZK):ZK:=if p.1=0 then(0,p.2+1)else(2,p.2)
inductive Vo(S:zf):ZK->ZK->Prop
 |refl (p):Vo S p p
 |step {p q r} :jy S p=some q->Vo S q r->Vo S p r
def ziT(S:zf)(q:ZK):Prop:=jy S q=none/\¬zk6 S q
theorem Vo.snoc {S:zf}{p q r:ZK}(h:Vo S p q)(h2:jy S q=some r):Vo S p r:=by
 induction h with
 |refl=>exact .step h2 (.refl _)
 |step h1 _ ih=>exact .step h1 (ih h2)
theorem Vo.det {S:zf}{p q r:ZK}(h:Vo S p q)(h2:Vo S p r)(hq:jy S q=none)(hr:jy S r=none):q=r:=by
 induction h with
 |refl=>
  cases h2 with
  |refl=>rfl
  |step h3 _=>rw [hq] at h3;cases h3
 |step h1 _ ih=>
  cases h2 with
  |refl=>rw [hr] at h1;cases h1
  |step h3 h4=>rw [h1] at h3;cases h3;exact ih h4 hq
theorem zk6.none {S:zf}{q:ZK}(h:zk6 S q):jy S q=none:=by
 unfold zk6 at h;unfold jy;rw [if_neg (by omega),if_pos h.1,if_neg (by omega)]
inductive vY(s:StD):Nat->ZK->zf->zf->Prop
 |done {p q S} :Vo S p q->zk6 S q->vY s 0 p S S
 |step {p q S S' f} :Vo S p q->ziT S q->vY s f (ziS q) (doW s S (VQ q)).1 S'->q.1≠0->vY s (f+1) p S S'
theorem vY.next {s:StD}{f:Nat}{p q:ZK}{S S':zf}(h:vY s f p S S')(hs:Vo S p q)(hy:ziT S q):∃g,f=g+1/\vY s g (ziS q) (doW s S (VQ q)).1 S':=by
 cases h with
 |done h1 h2=>exact absurd (by rw [hs.det h1 hy.1 h2.none];exact h2) hy.2
 |step h1 h2 h3=>rw [hs.det h1 hy.1 h2.1];exact⟨_,rfl,h3⟩
theorem vY.nine {s:StD}{f:Nat}{p q:ZK}{S S':zf}(h:vY s f p S S')(hs:Vo S p q)(hy:ziT S q):q.1≠0:=by
 cases h with
 |done h1 h2=>exact absurd (by rw [hs.det h1 hy.1 h2.none];exact h2) hy.2
 |step h1 h2 h3 h4=>rw [hs.det h1 hy.1 h2.1];exact h4
theorem vY.fin {s:StD}{f:Nat}{p q:ZK}{S S':zf}(h:vY s f p S S')(hs:Vo S p q)(he:zk6 S q):f=0/\S'=S:=by
 cases h with
 |done h1 h2=>exact⟨rfl,rfl⟩
 |step h1 h2 h3=>exact absurd (by rw [← hs.det h1 he.none h2.1];exact he) h2.2
inductive YQ(s:StD):Nat->Nat->zf->zf->Bool->Prop
 |none {S} :YQ s 0 0 S S (qV S)
 |rests {r S} :qV S=true->YQ s (r+1) 0 S S true
 |round {r f g S S1 S' b} :qV S=false->vY s f (0,0) S S1->YQ s r g S1 S' b->YQ s (r+1) (f+g) S S' b
def zjA(S:zf):Nat->ZK->ZK
 |0,p=>p
 |n+1,p=>match jy S p with|none=>p|some q=>zjA S n q
theorem zew(S:zf):∀(n:Nat)(p:ZK),Vo S p (zjA S n p)
 |0,p=>.refl p
 |n+1,p=>by
  unfold zjA
  cases h:jy S p with
  |none=>exact .refl p
  |some q=>exact .step h (zew S n q)
def zmH(s:StD):Nat->ZK->zf->Option zf
 |0,_,_=>none
 |n+1,p,S=>
  if(jy S (zjA S 100 p)).isSome then none
  else if(zjA S 100 p).1=1/\S.nodes.length<=(zjA S 100 p).2 then some S
  else if(zjA S 100 p).1=0 then none
  else zmH s n (ziS (zjA S 100 p)) (doW s S (VQ (zjA S 100 p))).1
theorem ziU(s:StD):∀(n:Nat)(p:ZK)(S S':zf),zmH s n p S=some S'->∃f,f<=n/\vY s f p S S'
 |0,_,_,_,h=>by cases h
 |n+1,p,S,S',h=>by
  unfold zmH at h
  split at h
  ·cases h
  rename_i h1
  have h1':jy S (zjA S 100 p)=none:=by simpa using h1
  split at h
  ·rename_i h2
   cases h
   exact⟨0,Nat.zero_le _,.done (zew S 100 p) h2⟩
  rename_i h2
  split at h
  ·cases h
  rename_i h9
  obtain⟨f,hf,hr⟩:=ziU s n _ _ _ h;exact⟨f+1,by omega,.step (zew S 100 p) ⟨h1',h2⟩ hr h9⟩
def QK(s:StD)(m:Nat):Nat->zf->Option (zf×Bool)
 |0,S=>some (S,qV S)
 |r+1,S=>if qV S then some (S,true)else match zmH s m (0,0) S with|none=>none|some S1=>QK s m r S1
theorem zbr(s:StD)(m:Nat):∀(r:Nat)(S S':zf)(b:Bool),QK s m r S=some (S',b)->∃f,f<=r*m/\YQ s r f S S' b
 |0,S,S',b,h=>by
  unfold QK at h
  cases h
  exact⟨0,by simp,.none⟩
 |r+1,S,S',b,h=>by
  unfold QK at h
  split at h
  ·rename_i h1
   cases h
   exact⟨0,Nat.zero_le _,.rests h1⟩
  rename_i h1
  split at h
  ·cases h
  rename_i S1 h2
  obtain⟨f,hf,hr⟩:=ziU s m _ _ _ h2;obtain⟨g,hg,hr2⟩:=zbr s m r _ _ _ h;exact⟨f+g,by rw [Nat.add_mul];omega,.round (by simpa using h1) hr hr2⟩
theorem zkz {p:Nat->Prop} :∀n,p n->∃m,p m/\∀k,p k->m<=k:=by
 intro n
 induction n using Nat.strongRecOn with
 |_ n ih=>
  intro hn
  by_cases h:∃k,k<n/\p k
  ·obtain⟨k,hk,hp⟩:=h
   exact ih k hk hp
  exact⟨n,hn,λk hk=>by
  rcases Nat.lt_or_ge k n with h1|h1
  ·exact absurd ⟨k,h1,hk⟩ h
  exact h1⟩
noncomputable def least(p:Nat->Prop):Nat:=open Classical in if h:∃m,p m/\∀k,p k->m<=k then h.choose else 0
theorem Jp {p:Nat->Prop}(h:∃n,p n):p (least p)/\∀k,p k->least p<=k:=by
 obtain⟨n,hn⟩:=h;have h2:=zkz n hn;unfold least;rw [dif_pos h2];exact h2.choose_spec
def Qv(f:Nat->Nat):Nat->Nat
 |0=>0
 |n+1=>Qv f n+f n
theorem Jq {f g:Nat->Nat} :∀(n:Nat),(∀j,j<n->f j=g j)->Qv f n=Qv g n
 |0,_=>rfl
 |n+1,h=>by unfold Qv;rw [Jq n (λj hj=>h j (by omega)),h n (by omega)]
theorem zbs {f g:Nat->Nat}{i c:Nat}(hi:g i=f i+c)(h:∀j,j≠i->g j=f j):∀(n:Nat),i<n->Qv g n=Qv f n+c
 |0,h0=>by omega
 |n+1,h0=>by
  unfold Qv
  by_cases hn:i=n
  ·subst hn
   rw [Jq (f:=g) (g:=f) i (λj hj=>h j (by omega)),hi];omega
  rw [zbs hi h n (by omega),h n (λe=>hn e.symm)];omega
theorem YR {f:Nat->Nat} :∀(n:Nat),Qv f n=0->∀j,j<n->f j=0
 |0,_,j,hj=>by omega
 |n+1,h,j,hj=>by
  unfold Qv at h
  by_cases hn:j=n
  ·subst hn;omega
  exact YR n (by omega) j (by omega)
def xx(tk:List Nat)(j:Nat):Nat:=tk[j]?.getD 0
theorem Jr {tk:List Nat}{i:Nat}(hi:i<tk.length)(c j:Nat):xx (tk.set i c) j=if i=j then c else xx tk j:=by
 unfold xx
 by_cases h:i=j
 ·subst h;rw [List.getElem?_set_self hi,if_pos rfl];rfl
 rw [List.getElem?_set_ne h,if_neg h]
def J5(a:Nat->Nat)(d:List UInt8)(log2:List zx)(A:List jV×List Yv)(j:Nat):List jV×List Yv:=
 match A.1[j]? with
 |some s=>(A.1.set j {s with accepted:=max s.accepted (a j),delivered:=max s.delivered log2.length,stale:=false},A.2++(((jw j d 0 (a j)).drop s.accepted).map (λx=>(1,(j:Int),x))++(log2.drop s.delivered).map (λx=>(3,(j:Int),x))))
 |none=>A
abbrev ziV:=List jV->List Yv->List Nat->List zx->Prop
def zex(d:List UInt8)(a:Nat->Nat)(n:Nat)(P:ziV):Prop:=∀ss tr tk log2 i b c,P ss tr tk log2->ss.length=n->i<n->tk.length=16->xx tk i+c<=a i->
 P ((List.range n).foldl (J5 a d (log2++jw i d (xx tk i) c)) (ss.set i {ss[i]?.getD yX with greatest:=b},tr)).1 ((List.range n).foldl (J5 a d (log2++jw i d (xx tk i) c)) (ss.set i {ss[i]?.getD yX with greatest:=b},tr)).2 (tk.set i (xx tk i+c)) (log2++jw i d (xx tk i) c)
theorem Vp {a:Nat->Nat}{d:List UInt8}{log2:List zx}{q:Int}{x:List UInt8} :∀(js:List Nat)(ns:List zq)(ss:List jV)(tr:List Yv),js.Nodup->(∀j∈js,∃m,ns[j]?=some m/\(jd m q x).1.acc=jw j d 0 (a j)/\(jd m q x).1.loc.log=log2)->
 (js.foldl (vX q x) (ns,ss,tr)).2=js.foldl (J5 a d log2) (ss,tr)
 | [],_,_,_,_,_=>rfl
 |j::js,ns,ss,tr,hnd,h=>by
  obtain⟨hn1,hn2⟩:=List.nodup_cons.1 hnd;obtain⟨m,hm,h1,h2⟩:=h j (List.mem_cons_self ..);rw [List.foldl_cons,List.foldl_cons]
  have hrest:∀(ns':List zq),(∀k∈js,ns'[k]?=ns[k]?)->∀k∈js,∃m,ns'[k]?=some m/\(jd m q x).1.acc=jw k d 0 (a k)/\(jd m q x).1.loc.log=log2:=λns' hk k hkj=>by
   rw [hk k hkj];exact h k (U7 _ hkj)
  cases hs:ss[j]? with
  |none=>
   have e1:vX q x (ns,ss,tr) j=(ns,ss,tr):=by unfold vX;simp only [hm,hs]
   have e2:J5 a d log2 (ss,tr) j=(ss,tr):=by unfold J5;simp only [hs]
   rw [e1,e2];exact Vp js ns ss tr hn2 (hrest ns (λ_ _=>rfl))
  |some s=>
   have e1:vX q x (ns,ss,tr) j=(ns.set j (jd m q x).1,ss.set j (QC s (jd m q x).1),tr++zbd s j (jd m q x).1):=by unfold vX;simp only [hm,hs]
   have e2:J5 a d log2 (ss,tr) j=(ss.set j (QC s (jd m q x).1),tr++zbd s j (jd m q x).1):=by
    unfold J5 QC zbd;simp only [hs];rw [h1,h2,yx]
   rw [e1,e2];exact Vp js _ _ _ hn2 (hrest _ (λk hk=>by rw [List.getElem?_set_ne (λe=>hn1 (by rw [e];exact hk))]))
structure Zu(P:ziV)(v:Int)(s:StD)(d:List UInt8)(a:Nat->Nat)(n k G room:Nat)(tk:List Nat)(log2:List zx)(W:zf)(ns:List zq):Prop where
 is:∃ss ld tr,IsW W ns ss ld [] tr/\yR ss/\ss.length=n/\(∀j:Nat,(ss[j]?.getD yX).greatest<=G)/\P ss tr tk log2
 len:ns.length=n
 tks:tk.length=16
 nodes:∃cnt log,∀j m,ns[j]?=some m->VZ d k (Jw v s tk cnt log log2) room j (xx tk j) (a j) m
 most:∀j,a j<=100000
structure zlI(d:List UInt8)(a:Nat->Nat)(n:Nat)(tk:List Nat)(log2:List zx):Prop where
 len:log2.length=Qv (xx tk) n
 one:∀i,i<n->(∀j,j<n->j≠i->a j=0)->log2=jw i d 0 (xx tk i)
def zk7(a:Nat->Nat)(tk:List Nat)(n:Nat):Nat:=Qv (λj=>a j - xx tk j) n
structure zc2(P:ziV)(v:Int)(s:StD)(d:List UInt8)(a:Nat->Nat)(n p:Nat)(W:zf):Prop where
 ex:∃k G room tk log2 ns,Zu P v s d a n k G room tk log2 W ns/\zlI d a n tk log2/\zk7 a tk n=p/\k+p<=9000/\G+32*p<=1000000000000/\2000*p<=room
variable {P:ziV}{v:Int}{s:StD}{d:List UInt8}{a:Nat->Nat}{n k G room:Nat}{tk:List Nat}{log2:List zx}{W:zf}{ns:List zq}
theorem Zu.notes(h:Zu P v s d a n k G room tk log2 W ns):W.notes.length=0:=by
 obtain⟨ss,ld,tr,hW, -⟩:=h.is;exact hW.len
theorem Zu.wn(h:Zu P v s d a n k G room tk log2 W ns):W.nodes.length=n:=by
 obtain⟨ss,ld,tr,hW, -⟩:=h.is;rw [hW.nodes];exact h.len
theorem Zu.node(h:Zu P v s d a n k G room tk log2 W ns){i:Nat}(hi:i<n):∃m,ns[i]?=some m/\zn W i=m:=by
 obtain⟨ss,ld,tr,hW, -⟩:=h.is;obtain⟨m,hm⟩:∃m,ns[i]?=some m:=⟨_,N3 (by rw [h.len];exact hi)⟩;exact⟨m,hm,by rw [hW.node,hm];rfl⟩
theorem Zu.up(h:Zu P v s d a n k G room tk log2 W ns){i:Nat}(hi:i<n):(zn W i).down=false:=by
 obtain⟨m,hm,hn⟩:=h.node hi;obtain⟨cnt,log,hc⟩:=h.nodes;rw [hn];exact(hc i m hm).up
theorem Zu.due(h:Zu P v s d a n k G room tk log2 W ns)(hv:known v=true)(hn:n<=16)(hd:d.length<=100){i:Nat}(hi:i<n):zfc W i=decide (a i - xx tk i≠0):=by
 obtain⟨m,hm,ab⟩:=h.node hi;obtain⟨cnt,log,hc⟩:=h.nodes;obtain⟨ss,ld,tr,hW, -⟩:=h.is;have hp:=(hc i m hm).proposal hv (by omega) hd (by have:=h.most i;omega)
 have aa:(W.nodes.any λx=>decide (yE (zn W i)<yE x))=false:=by
  rw [List.any_eq_false];intro x hx;rw [hW.nodes] at hx;obtain⟨j,hj⟩:=List.mem_iff_getElem?.1 hx;rw [ab,(hc i m hm).next,(hc j x hj).next];simp
 unfold zfc;rw [aa,Bool.or_false,ab,hp]
 by_cases h0:a i - xx tk i=0
 ·rw [if_pos h0];simp [h0]
 rw [if_neg h0];simp [h0]
theorem Qc {G i:Nat}(hG:G<=1000000000000)(hi:i<16):∃b,jt G i=(b,0)/\1<=b/\b<=G+32:=by
 unfold jt;rw [if_neg (by omega)]
 split
 ·exact⟨_,rfl,by omega,by omega⟩
 exact⟨_,rfl,by omega,by omega⟩
theorem Zu.lead(h:Zu P v s d a n k G (room+2000) tk log2 W ns)(hv:known v=true)(hn:n<=16)(hd:d.length<=100)(hG:G<=1000000000000)(hk:k<10000){i:Nat}(hi:i<n)(hdue:a i - xx tk i≠0)(hlog:zlI d a n tk log2)(hP:zex d a n P):
 ∃c ns',1<=c/\c<=a i - xx tk i/\Zu P v s d a n (k+1) (G+32) room (tk.set i (xx tk i+c)) (log2++jw i d (xx tk i) c) (jh (5*n) (doW s W ⟨2,i,0,0,0,[]⟩).1) ns'/\
  zlI d a n (tk.set i (xx tk i+c)) (log2++jw i d (xx tk i) c)/\Seg (5*n) (doW s W ⟨2,i,0,0,0,[]⟩).1:=by
 obtain⟨mi,ah, -⟩:=h.node hi;obtain⟨cnt,log,hc⟩:=h.nodes;obtain⟨ss,ld,tr,hW,hq,ae,ag,ak⟩:=h.is;have aa:=h.len;have au:=ag i;obtain⟨b,hb,al,aq⟩:=Qc (G:=(ss[i]?.getD yX).greatest) (i:=i) (by omega) (by omega);have af:=hc i mi ah;have hp:=af.proposal hv (by omega) hd (by have:=h.most i;omega);rw [if_neg hdue] at hp;have ar:1<=Z2 v/\Z2 v<=8:=by unfold Z2;split<;>omega
 obtain⟨c,am⟩:∃c,min (Z2 v) (a i - xx tk i)=c:=⟨_,rfl⟩;rw [am] at hp;have ao:=h.most i;have ad:=h.tks
 have ac:∀j,j<16->tk[j]?=some (xx tk j):=λj hj=>by
  unfold xx;rw [N3 (by omega)];rfl
 have ab:=λj m (hm:ns[j]?=some m)=>(hc j m hm).led hd hk al (i:=i) (ti:=xx tk i) (c:=c) (by omega) ad (ac i (by omega)) (ac j (by have:=(N6.1 hm).1;omega)) (by omega) (by omega) (λe=>by subst e;omega)
 have aw:=zcG (j:=i) (d:=d) (t:=xx tk i) (c:=c) (by omega) hd (by omega) (by omega)
 obtain⟨ai,aj,an,g0,g1,g2,g3,g4,g5⟩:=zkg s hW hq (by rw [ae,aa]) (i:=i) (b:=b) (q:=k+1) (x:=qz i d (xx tk i) c) (mi:=mi) (by omega) ah hb (by omega) af.next (by omega) (by rw [hp]) (by omega) (λm hm=>by
  obtain⟨j,hj⟩:=List.mem_iff_getElem?.1 hm
  exact(ab j m hj).1)
 rw [aa] at g1 g3 g5;refine⟨c,_,by omega,by omega,⟨⟨aj,ai,an,g1,g2,g3,λj=>?_,?_⟩,by simpa using aa,by simpa using ad,⟨cnt+1,log++jw i d (xx tk i) c,λj m' hm'=>?_⟩,h.most⟩,⟨?_,λi0 hi0 h0=>?_⟩,g5⟩
 ·rw [g4 j]
  by_cases hj:i=j
  ·subst hj
   rw [List.getElem?_set_self (by omega)]
   show b<=_
   omega
  rw [List.getElem?_set_ne hj]
  have:=ag j;omega
 ·have ht:=Vp (a:=a) (d:=d) (log2:=log2++jw i d (xx tk i) c) (q:=((k+1:Nat):Int)) (x:=qz i d (xx tk i) c) (List.range n) (ns.map λm=>(yH (zy m ((k+1:Nat):Int) b).1 ((k+1:Nat):Int) b (qz i d (xx tk i) c)).1) (ss.set i {ss[i]?.getD yX with greatest:=b}) tr List.nodup_range (λj hj=>by
   obtain⟨m,hm⟩:∃m,ns[j]?=some m:=⟨_,N3 (by rw [aa];exact List.mem_range.1 hj)⟩;have hx:=(ab j m hm).2
   exact⟨_,by rw [List.getElem?_map,hm];rfl,hx.acc,by rw [show(jd (yH (zy m ((k+1:Nat):Int) b).1 ((k+1:Nat):Int) b (qz i d (xx tk i) c)).1 ((k+1:Nat):Int) (qz i d (xx tk i) c)).1.loc=_ from hx.loc];rfl⟩)
  unfold zia at g0;rw [List.length_map,aa] at g0;rw [show((k+1:Nat):Int)=((k+1:Nat):Int)from rfl] at ht;have e1:=congrArg Prod.fst (g0.trans ht);have e2:=congrArg Prod.snd (g0.trans ht);simp only at e1 e2;rw [e1,e2];exact hP ss tr tk log2 i b c ak ae hi ad (by omega)
 ·rw [List.getElem?_map] at hm'
  obtain⟨m,hm,rfl⟩:=Option.map_eq_some_iff.1 hm';have:=(ab j m hm).2
  rwa [Jr (by omega)]
 ·rw [N1,yx,hlog.len]
  exact(zbs (f:=xx tk) (g:=xx (tk.set i (xx tk i+c))) (i:=i) (c:=c) (by rw [Jr (by omega),if_pos rfl]) (λj hj=>by rw [Jr (by omega),if_neg (λe=>hj e.symm)]) n hi).symm
 have ap:i0=i:=by
  by_cases e:i0=i
  ·exact e
  have:=h0 i hi (λe'=>e e'.symm)
  omega
 subst ap;rw [hlog.one i0 hi0 h0,Jr (by omega),if_pos rfl];have:=YC i0 d 0 (xx tk i0) c;rw [Nat.zero_add] at this;exact this.symm
theorem vY.pre {f:Nat}{p q:ZK}{S S':zf}(h:Vo S p q)(hr:vY s f q S S'):vY s f p S S':=by
 have tr:∀ {r},Vo S q r->Vo S p r:=λ{r} h2=>by
  induction h with
  |refl=>exact h2
  |step h1 _ ih=>exact .step h1 (ih hr h2)
 cases hr with
 |done h1 h2=>exact .done (tr h1) h2
 |step h1 h2 h3 h4=>exact .step (tr h1) h2 h3 h4
theorem zat {i f:Nat}{S':zf} :∀(c:Nat)(W:zf),Seg c W->(jh c W).notes.length=0->vY s f (1,i+1) (jh c W) S'->vY s (f+c) (2,i) W S'
 |0,W,_,h0,hr=>vY.pre (.step (by unfold jy;rw [if_neg (by simp),if_neg (by simp),if_pos (show W.notes.length=0 from h0)]) (.refl _)) hr
 |c+1,W,hs,h0,hr=>by
  have ih:=zat c (y9 W) hs.2 h0 hr;refine vY.step (.refl _) ⟨by unfold jy;rw [if_neg (by simp),if_neg (by simp),if_neg hs.1],λe=>by cases e.1⟩ ?_ (by simp);rw [show(doW s W (VQ (2,i))).1=y9 W from zlA s W];exact ih
theorem ziW(h:∀i,i<W.nodes.length->(zn W i).down=false):∀(r i:Nat),i+r=W.nodes.length->Vo W (0,i) (1,0)
 |0,i,hi=>.step (by unfold jy;rw [if_pos rfl,if_neg (by simp only;omega)]) (.refl _)
 |r+1,i,hi=>.step (q:=(0,i+1)) (by unfold jy;rw [if_pos rfl,if_pos (by simp only;omega),if_neg (by simp only;rw [h i (by omega)];simp)]) (ziW h r (i+1) (by omega))
theorem zbt(hP:zex d a n P)(hv:known v=true)(hn:n<=16)(hd:d.length<=100):∀(r i p:Nat)(W:zf),i+r=n->zc2 P v s d a n p W->
 ∃f W' p',vY s f (1,i) W W'/\zc2 P v s d a n p' W'/\p'<=p/\f<=r*(5*n+1)/\((∃j,i<=j/\j<n/\zfc W j=true)->p'<p)
 |0,i,p,W,hi,h=>by
  obtain⟨k,G,room,tk,log2,ns,hC, -⟩:=h.ex;exact⟨0,W,p,.done (.refl _) ⟨rfl,by rw [hC.wn];simp only;omega⟩,h,N0 _,by omega,λ⟨j,h1,h2,_⟩=>by omega⟩
 |r+1,i,p,W,hi,h=>by
  have h0:=h;obtain⟨k,G,room,tk,log2,ns,hC,hL,hp,hk,hG,hroom⟩:=h.ex;have hin:i<n:=by omega
  have ae:=hC.due hv hn hd hin
  by_cases hz:a i - xx tk i=0
  ·have ab:zfc W i=false:=by rw [ae];simp [hz]
   obtain⟨f,W',p',g1,g2,g3,g4,g5⟩:=zbt hP hv hn hd r (i+1) p W (by omega) h0
   refine⟨f,W',p',vY.pre (.step (q:=(2,i)) (by unfold jy;rw [if_neg (by simp),if_pos rfl,if_pos (by simp only;rw [hC.wn];omega),if_neg (by simp only;rw [ab];simp)])
    (.step (q:=(1,i+1)) (by unfold jy;rw [if_neg (by simp),if_neg (by simp),if_pos hC.notes]) (.refl _))) g1,g2,g3,by rw [show(r+1)*(5*n+1)=r*(5*n+1)+(5*n+1)from Nat.succ_mul _ _];omega,λ⟨j,h1,h2,h3⟩=>g5 ⟨j,?_,h2,h3⟩⟩
   rcases Nat.eq_or_lt_of_le h1 with e|e
   ·subst e;rw [ab] at h3;cases h3
   exact e
  have ah:zfc W i=true:=by rw [ae];simp [hz]
  have ak:1<=p:=by
   rcases Nat.eq_zero_or_pos p with e|e
   ·rw [e] at hp
    exact absurd (YR n hp i hin) hz
   exact e
  obtain⟨ad,rfl⟩:∃r',room=r'+2000:=⟨room - 2000,by omega⟩;obtain⟨c,aj,c1,c2,ac,af,aa⟩:=hC.lead hv hn hd (by omega) (by omega) hin hz hL hP
  have ai:zk7 a (tk.set i (xx tk i+c)) n+c=p:=by
   rw [← hp];unfold zk7;exact(zbs (f:=λj=>a j - xx (tk.set i (xx tk i+c)) j) (g:=λj=>a j - xx tk j) (i:=i) (c:=c) (by rw [Jr (by have:=hC.tks;omega),if_pos rfl];omega) (λj hj=>by rw [Jr (by have:=hC.tks;omega),if_neg (λe=>hj e.symm)]) n hin).symm
  have ag:zc2 P v s d a n (zk7 a (tk.set i (xx tk i+c)) n) (jh (5*n) (doW s W ⟨2,i,0,0,0,[]⟩).1):=⟨⟨_,_,_,_,_,_,ac,af,rfl,by omega,by omega,by omega⟩⟩;obtain⟨f,W',p',g1,g2,g3,g4, -⟩:=zbt hP hv hn hd r (i+1) _ _ (by omega) ag;refine⟨f+5*n+1,W',p',?_,g2,by omega,by rw [show(r+1)*(5*n+1)=r*(5*n+1)+(5*n+1)from Nat.succ_mul _ _];omega,λ_=>by omega⟩;refine vY.step (.refl _) ⟨by unfold jy;rw [if_neg (by simp),if_pos rfl,if_pos (by simp only;rw [hC.wn];omega),if_pos ah],λe=>by have:=e.2;rw [hC.wn] at this;simp only at this;omega⟩ ?_ (by simp);exact zat (i:=i) (5*n) _ aa ac.notes g1
theorem zgR(hv:known v=true)(hn:n<=16)(hd:d.length<=100)(hC:Zu P v s d a n k G room tk log2 W ns):qV W=decide (zk7 a tk n=0):=by
 unfold qV
 have h1:W.notes.isEmpty=true:=by have:=hC.notes;cases hN:W.notes with
  |nil=>rfl
  |cons x l=>rw [hN] at this;simp at this
 rw [h1,Bool.true_and]
 by_cases hz:zk7 a tk n=0
 ·rw [decide_eq_true hz,List.all_eq_true]
  intro i hi;rw [hC.wn] at hi;have aa:=List.mem_range.1 hi;rw [hC.up aa,hC.due hv hn hd aa,YR n hz i aa];simp
 rw [decide_eq_false hz,List.all_eq_false]
 have:∃i,i<n/\a i - xx tk i≠0:=by
  refine Classical.byContradiction λab=>hz ?_
  have:∀m,m<=n->Qv (λj=>a j - xx tk j) m=0:=by
   intro m
   induction m with
   |zero=>intro _;rfl
   |succ m ih=>
    intro hm;unfold Qv;rw [ih (by omega)];have:a m - xx tk m=0:=Classical.byContradiction λh=>ab ⟨m,by omega,h⟩
    omega
  exact this n (N0 _)
 obtain⟨i,hi,ab⟩:=this;refine⟨i,by rw [hC.wn];exact List.mem_range.2 hi,?_⟩;rw [hC.up hi,hC.due hv hn hd hi];simp [ab]
theorem zc3(hP:zex d a n P)(hv:known v=true)(hn:n<=16)(hd:d.length<=100):∀(r p:Nat)(W:zf),zc2 P v s d a n p W->p<r->∃g W',YQ s r g W W' true/\zc2 P v s d a n 0 W'/\g<=p*1296
 |0,p,W,_,hr=>by omega
 |r+1,p,W,h,hr=>by
  obtain⟨k,G,room,tk,log2,ns,hC,hL,hp,hk,hG,hroom⟩:=h.ex;have hrs:=zgR hv hn hd hC;rw [hp] at hrs
  by_cases hz:p=0
  ·subst hz
   exact⟨0,W,.rests (by rw [hrs];rfl),h,Nat.zero_le _⟩
  have hrf:qV W=false:=by rw [hrs];simp [hz]
  obtain⟨f,W1,p1,g1,g2,g3,g4,g5⟩:=zbt hP hv hn hd n 0 p W (by omega) h
  have ac:∃j,0<=j/\j<n/\zfc W j=true:=by
   refine Classical.byContradiction λhne=>?_
   have aa:∀j,j<n->a j - xx tk j=0:=λj hj=>Classical.byContradiction λh=>hne ⟨j,Nat.zero_le _,hj,by rw [hC.due hv hn hd hj];simp [h]⟩
   have:∀m,m<=n->Qv (λj=>a j - xx tk j) m=0:=by
    intro m
    induction m with
    |zero=>intro _;rfl
    |succ m ih=>intro hm;unfold Qv;rw [ih (by omega),aa m (by omega)]
   exact hz (by rw [← hp];exact this n (N0 _))
  have ad:=g5 ac;obtain⟨g,W',k1,k2,k3⟩:=zc3 hP hv hn hd r p1 W1 g2 (by omega);have ab:Vo W (0,0) (1,0):=ziW (λi hi=>hC.up (by rw [← hC.wn];exact hi)) W.nodes.length 0 (by omega);refine⟨f+g,W',.round hrf (vY.pre ab g1) k1,k2,?_⟩
  have h1:f<=1296:=Nat.le_trans g4 (by
   have:n*(5*n+1)<=16*81:=Nat.mul_le_mul hn (by omega)
   omega)
  have h2:p1*1296+1296<=p*1296:=by
   have:(p1+1)*1296<=p*1296:=Nat.mul_le_mul_right _ ad;omega
  omega
