/- PARTS OF THE PROOF. -/
import Derived.Test.YtobnhnidffipjaaGreatDoorQ36
set_option maxRecDepth 8000
set_option maxHeartbeats 4000000
open Go.Proofs.Tryz
namespace Go.Proofs.YtobnhnidffipjaaGreatDoor
section
open Go
variable {v:Int}{k L:Nat}{S:zj}
theorem Xk {K V:Type} [DecidableEq K] {i j:K}(h:i≠j):∀(l:List (K×V)),zJ i (del j l)=zJ i l
 | []=>rfl
 |(a,b)::l=>by
  unfold del
  by_cases hj:j=a
  ·rw [if_pos hj];subst hj
   conv=>rhs;unfold zJ
   rw [if_neg h]
  ·rw [if_neg hj]
   unfold zJ;rw [Xk h l]
theorem Qy {f:vx}(h:JY f=true):f.data.length<=4096:=by
 unfold JY at h;simp only [Bool.and_eq_true,decide_eq_true_eq] at h;exact h.1.1.1.1.1.2
theorem YA {f:vx}(h:(ZG f).2=0):JY f=true:=by
 unfold ZG at h
 split at h
 ·simp at h
 ·rename_i h1;simpa using h1
theorem ziQ {f:vx}(h:(ZG f).2=0):(ZG f).1.length<=5000:=by
 have hd:=Qy (YA h);have hr:=YA h;unfold ZG;rw [if_neg (by rw [hr];simp)];unfold qD;simp only [N1,jb,List.length_cons,List.length_nil]
 split<;>simp [jb] <;>omega
theorem ql.dec {n:Nat}{dst:Int}{s:List UInt8}(h:ql n dst s)(hn:n<=16)(hd:0<=dst/\dst<n):s.length<=5000/\(vG s).isSome/\∃(kind src:Nat)(data:List UInt8),kind<=7/\src<n/\data.length<=4096/\zhj s=(qx kind src dst data,0)/\s=(ZG (qx kind src dst data)).1:=by
 obtain⟨kind,src,data,h1,h2,h3,rfl⟩:=h;have hd2:=zjW (kind:=(kind:Int)) (src:=(src:Int)) (dst:=dst) (data:=data) (by omega) (by omega) (by omega) (by omega) hd.1 (by omega) h3;refine⟨ziQ hd2.1,?_,kind,src,data,h1,h2,h3,hd2.2,rfl⟩;have ho:=hd2.2;unfold zhj at ho
 cases hq:vG (ZG (qx (kind:Int) (src:Int) dst data)).1 with
 |none=>rw [hq] at ho;simp at ho
 |some b=>rfl
theorem vy(S:zj)(d:Int)(s:List UInt8):(yu S d s).1.nodes=S.nodes/\(yu S d s).1.seats=S.seats/\(yu S d s).1.leads=S.leads/\(yu S d s).1.trace=S.trace/\(yu S d s).1.hurt=S.hurt:=by
 unfold yu
 split<;>exact⟨rfl,rfl,rfl,rfl,rfl⟩
theorem xE(S:zj)(f:vx):(xZ S f).nodes=S.nodes/\(xZ S f).seats=S.seats/\(xZ S f).leads=S.leads/\(xZ S f).trace=S.trace/\(xZ S f).hurt=S.hurt:=by
 unfold xZ
 split
 ·exact vy _ _ _
 ·exact⟨rfl,rfl,rfl,rfl,rfl⟩
theorem zr.launch(h:zr v k L S)(hL:L<=4000000000){d:Int}{s:List UInt8}(hd:0<=d/\d<S.nodes.length)(hf:vG s=none/\s.length<=5000∨ql S.nodes.length d s)(hurt':List (Nat×Unit))
 (hh:∀i,zJ i hurt'=none->zJ i S.hurt=none) (hsum:zJ (S.last+1) hurt'=none->ql S.nodes.length d s) (hroom:S.notes.length<1000):
 (yu S d s).2=(S.last+1,0)/\zr v k (L+1) {(yu S d s).1 with hurt:=hurt'} :=by
 have hw:(S.last+1)% 4294967296=S.last+1:=Nat.mod_eq_of_lt (by have:=h.last;omega);unfold yu;rw [if_neg (by omega),hw];refine⟨rfl,h.n0,h.nodes,h.seatsN,h.seats,h.leadsN,h.leads,?_,λx hx=>?_,?_,λx hx=>?_,?_,h.trace⟩
 ·show(S.notes++ [_]).length<=1000
  rw [N1,U2];omega
 ·rcases List.mem_append.1 hx with hx|hx
  ·have:=h.notes x hx
   exact⟨this.dst,this.form,λe=>this.sum (hh _ e)⟩
  ·rw [List.mem_singleton] at hx
   subst hx;exact⟨hd,hf,hsum⟩
 ·show((S.notes++ [(S.last+1,d,s)]).map (·.1)).Nodup
  rw [List.map_append,List.nodup_append];refine⟨h.ids,by simp,λa ha b hb=>?_⟩;obtain⟨x,hx,rfl⟩:=List.mem_map.1 ha;have h1:=h.least x hx;simp at hb
  omega
 ·rcases List.mem_append.1 hx with hx|hx
  ·have:=h.least x hx
   show x.1<=S.last+1
   omega
  ·rw [List.mem_singleton] at hx
   subst hx;exact N0 _
 ·have:=h.last
  show S.last+1<=L+1
  omega
theorem zr.send(h:zr v k L S)(hL:L<=4000000000){kind src dst inst:Int}{ballot:Nat}{more:List UInt8}(hk:0<=kind/\kind<=7)(hs:0<=src/\src<S.nodes.length)(hd:0<=dst/\dst<S.nodes.length):
 zr v k (L+1) (xZ S (vq kind src dst inst ballot more)):=by
 have hn:=h.n0;unfold xZ
 split
 ·rename_i he
  have hl:=Qy (YA he)
  have hlet:ql S.nodes.length dst (ZG (vq kind src dst inst ballot more)).1:=⟨kind.toNat,src.toNat,(vq kind src dst inst ballot more).data,by omega,by omega,hl,by
   rw [show((kind.toNat:Nat):Int)=kind by omega,show((src.toNat:Nat):Int)=src by omega];rfl⟩
  by_cases hr:1000<=S.notes.length
  ·unfold yu;rw [if_pos hr];exact h.mono (N0 _) (by omega)
  ·have h1:=(h.launch hL (s:=(ZG (vq kind src dst inst ballot more)).1) (d:=dst) hd (.inr hlet) S.hurt (λ_ e=>e) (λ_=>hlet) (by omega)).2
   rw [← (vy S dst (ZG (vq kind src dst inst ballot more)).1).2.2.2.2] at h1;exact h1
 ·exact h.mono (N0 _) (by omega)
theorem zr.sends {kind src inst:Int}{ballot:Nat}{more:List UInt8}(hk:0<=kind/\kind<=7):∀(js:List Nat)(L:Nat)(S:zj),zr v k L S->L+js.length<=4000000000->0<=src/\src<S.nodes.length->(∀j∈js,j<S.nodes.length)->
 zr v k (L+js.length) (js.foldl (λw (i:Nat)=>xZ w (vq kind src i inst ballot more)) S)
 | [],L,S,h,_,_,_=>h
 |j::js,L,S,h,hL,hs,hj=>by
  have hjl:=hj j (List.mem_cons_self ..);simp only [List.length_cons] at hL⊢;have h1:=h.send (by omega) (kind:=kind) (src:=src) (dst:=(j:Int)) (inst:=inst) (ballot:=ballot) (more:=more) hk hs ⟨by omega,by omega⟩;have hn:=(xE S (vq kind src j inst ballot more)).1;have h2:=zr.sends (inst:=inst) (ballot:=ballot) (more:=more) hk js (L+1) _ h1 (by omega) (by rw [hn];exact hs) (λi hi=>by rw [hn];exact hj i (U7 _ hi));rw [show L+(js.length+1)=L+1+js.length by omega];exact h2
theorem zr.sendAll(h:zr v k L S)(hL:L<=3000000000){kind src inst:Int}{ballot:Nat}{more:List UInt8}(hk:0<=kind/\kind<=7)(hs:0<=src/\src<S.nodes.length):zr v k (L+16) (vj S kind src inst ballot more):=by
 have hn:=h.n0;have:=zr.sends (kind:=kind) (src:=src) (inst:=inst) (ballot:=ballot) (more:=more) hk (List.range S.nodes.length) L S h (by simp;omega) hs (λj hj=>List.mem_range.1 hj);rw [List.length_range] at this;exact this.mono (N0 _) (by omega)
theorem zhz(n:Nat)(ps:List jn)(own:List UInt8)(ho:own.length<=5000)(hp:∀x∈ps,x.2.2.length<=5000):(J0 n ps own).1.length<=5000:=by
 unfold J0
 split
 ·simp
 split
 ·simp
 have:∀(l:List jn)(x:jn),(∀y∈l,y.2.2.length<=5000)->x.2.2.length<=5000->(l.foldl (λ(b:jn) y=>if b.2.1<y.2.1 then y else b) x).2.2.length<=5000:=by
  intro l
  induction l with
  |nil=>intro x _ h;exact h
  |cons y l ih=>
   intro x hy hx;rw [List.foldl_cons];refine ih _ (λz hz=>hy z (U7 _ hz)) ?_
   split
   ·exact hy y (List.mem_cons_self ..)
   ·exact hx
 exact this ps (0,0,own) hp ho
theorem zr.countPromise(h:zr v k L S)(hL:L<=3000000000){i src:Nat}(hi:i<S.nodes.length)(hs:src<S.nodes.length)(inst:Int){ballot:Nat}(_hb:ballot<18446744073709551616){more:List UInt8}(hm:more.length<=5000):
 zr v k (L+16) (countPromise S i src inst ballot more):=by
 have hn:=h.n0;unfold Go.Proofs.YtobnhnidffipjaaGreatDoor.countPromise
 cases hl:zJ (i:Int) S.leads with
 |none=>exact h.mono (N0 _) (by omega)
 |some l=>
  have hg:=h.leads i l hl;simp only
  split
  ·exact h.mono (N0 _) (by omega)
  ·rename_i hc
   simp only [not_or,Bool.not_eq_true] at hc;obtain⟨c1,c2,c3,c4,c5⟩:=hc;have hsp:src<l.promised.length:=by rw [hg.pn];omega
   have hok:zbJ {l with promised:=l.promised.set src true,promises:=l.promises++ [(ballot,je more 0+4294967296*je more 4,more.drop 8)] } :=
    ⟨hg.inst,hg.ballot,hg.value,by simp [hg.pn],hg.vn,by simp only [N1,U2,YW _ _ c4 hsp,hg.pc],hg.vc,λy hy=>by
     rcases List.mem_append.1 hy with hy|hy
     ·exact hg.ps y hy
     ·rw [List.mem_singleton] at hy;subst hy;simp;omega⟩
   split
   ·exact(h.putLead i hok).mono (N0 _) (by omega)
   split
   ·exact(h.putLead i hok).mono (N0 _) (by omega)
   ·refine(h.putLead i ?_).sendAll hL ⟨by omega,by omega⟩ ⟨by omega,by show(i:Int)<S.nodes.length;omega⟩
    exact⟨hg.inst,hg.ballot,zhz _ _ _ hg.value hok.ps,hok.pn,hok.vn,hok.pc,hok.vc,hok.ps⟩
theorem zr.countVote(h:zr v k L S)(hL:L<=3000000000){i src:Nat}(hi:i<S.nodes.length)(hs:src<S.nodes.length)(inst:Int)(ballot:Nat):
 zr v k (L+16) (countVote S i src inst ballot):=by
 have hn:=h.n0;unfold Go.Proofs.YtobnhnidffipjaaGreatDoor.countVote
 cases hl:zJ (i:Int) S.leads with
 |none=>exact h.mono (N0 _) (by omega)
 |some l=>
  have hg:=h.leads i l hl;simp only
  split
  ·exact h.mono (N0 _) (by omega)
  ·rename_i hc
   simp only [not_or,Bool.not_eq_true] at hc;obtain⟨c1,c2,c3,c4⟩:=hc;have hsp:src<l.voted.length:=by rw [hg.vn];omega
   have hok:zbJ {l with voted:=l.voted.set src true,votes:=l.votes+1} :=
    ⟨hg.inst,hg.ballot,hg.value,hg.pn,by simp [hg.vn],hg.pc,by simp only [YW _ _ c4 hsp,hg.vc],hg.ps⟩
   split
   ·exact(h.putLead i hok).mono (N0 _) (by omega)
   ·refine(h.putLead i ?_).sendAll hL ⟨by omega,by omega⟩ ⟨by omega,by show(i:Int)<S.nodes.length;omega⟩
    exact⟨hok.inst,hok.ballot,hok.value,hok.pn,hok.vn,hok.pc,hok.vc,hok.ps⟩
theorem zr.answer(h:zr v k L S)(hL:L<=3000000000){i:Nat}(hi:i<S.nodes.length){f:vx}(hs:0<=f.src/\f.src<S.nodes.length)(inst:Int){ballot:Nat}(hb:ballot<18446744073709551616)(more:List UInt8):
 zr v k (L+16) (vX S i f inst ballot more):=by
 have hii:0<=(i:Int)/\(i:Int)<S.nodes.length:=⟨by omega,by omega⟩;have hg:=(h.node hi).2;unfold vX
 split
 ·exact(h.send (by omega) ⟨by omega,by omega⟩ hii hs).mono (N0 _) (by omega)
 ·split
  ·simp only
   have h1:=h.setNode i (hg.castX inst ballot more hb);have hn1:(Go.Proofs.YtobnhnidffipjaaGreatDoor.setNode S i (JE (zt S i) inst ballot more).1).nodes.length=S.nodes.length:=by simp [Go.Proofs.YtobnhnidffipjaaGreatDoor.setNode]
   split
   ·exact(h1.send (by omega) ⟨by omega,by omega⟩ (by rw [hn1];exact hii) (by rw [hn1];exact hs)).mono (N0 _) (by omega)
   ·exact h1.mono (N0 _) (by omega)
  ·simp only
   have h1:=h.setNode i (hg.promise inst ballot hb);have hn1:(Go.Proofs.YtobnhnidffipjaaGreatDoor.setNode S i (j6 (zt S i) inst ballot).1).nodes.length=S.nodes.length:=by simp [Go.Proofs.YtobnhnidffipjaaGreatDoor.setNode]
   split
   ·exact(h1.send (by omega) ⟨by omega,by omega⟩ (by rw [hn1];exact hii) (by rw [hn1];exact hs)).mono (N0 _) (by omega)
   ·exact h1.mono (N0 _) (by omega)
theorem zr.receive(h:zr v k L S)(hL:L<=3000000000){i:Nat}(hi:i<S.nodes.length){f:vx}(hs:0<=f.src/\f.src<S.nodes.length)(hd:f.data.length<=4096):zr v k (L+16) (vK S i f):=by
 have b1:=vV ((f.data.drop 4).take 4);have b2:=vV ((f.data.drop 8).take 4);have hb:je f.data 4+4294967296*je f.data 8<18446744073709551616:=by unfold je;omega
 unfold vK
 split
 ·exact h.mono (N0 _) (by omega)
 simp only
 split
 ·exact h.answer hL hi hs _ hb _
 split
 ·exact h.countPromise hL hi (by omega) _ hb (by rw [U3];omega)
 split
 ·exact h.countVote hL hi (by omega) _ _
 split
 ·exact((h.stale hi).setNode i ((h.node hi).2.learnX _ _)).mono (N0 _) (by omega)
 ·exact h.mono (N0 _) (by omega)
theorem zr.erase(h:zr v k L S){p:Nat}{x:zhk}(hx:S.notes[p]?=some x):zr v k L {S with notes:=S.notes.eraseIdx p,hurt:=del x.1 S.hurt} :=by
 have hsub:=List.eraseIdx_sublist S.notes p;refine⟨h.n0,h.nodes,h.seatsN,h.seats,h.leadsN,h.leads,Nat.le_trans hsub.length_le h.notesN,λy hy=>?_,h.ids.sublist (hsub.map _),λy hy=>h.least y (hsub.subset hy),h.last,h.trace⟩;have hy':=h.notes y (hsub.subset hy);refine⟨hy'.dst,hy'.form,λe=>hy'.sum ?_⟩
 have hne:y.1≠x.1:=λe=>by
  obtain⟨j,hj⟩:=List.mem_iff_getElem?.1 hy;rw [List.getElem?_eraseIdx] at hj;have hp:=h.ids;rw [List.nodup_iff_pairwise_ne,List.pairwise_iff_getElem] at hp;have hpl:=(N6.1 hx)
  split at hj
  ·rename_i hjp
   have hjl:=(N6.1 hj);have:=hp j p (by simpa using hjl.1) (by simpa using hpl.1) hjp;simp [hjl.2,hpl.2,e] at this
  ·rename_i hjp
   have hjl:=(N6.1 hj);have:=hp p (j+1) (by simpa using hpl.1) (by simpa using hjl.1) (by omega);simp [hjl.2,hpl.2,e] at this
 rwa [Xk hne] at e
theorem zr.take(h:zr v k L S)(hL:L<=3000000000)(p:Int):zr v k (L+16) (Jc S p).1:=by
 unfold Jc
 split
 ·exact h.mono (N0 _) (by omega)
 ·split
  ·exact h.mono (N0 _) (by omega)
  ·rename_i id dst s hx
   have h1:=h.erase hx;have hok:=h.notes _ (List.mem_of_getElem? hx);simp only
   split
   ·rename_i hc
    have hd:0<=dst/\dst<(S.nodes.length:Int):=hok.dst
    rcases hok.form with hf|hf
    ·exfalso
     have h2:=hc.1;unfold zhj at h2;rw [hf.1] at h2;simp at h2
    ·obtain⟨-, -,kind,src,data,k1,k2,k3,k4, -⟩:=hf.dec h.n0.2 hok.dst
     rw [k4];exact h1.receive hL (by show dst.toNat<S.nodes.length;omega) ⟨by show 0<=(src:Int);omega,by show(src:Int)<(S.nodes.length:Int);omega⟩ k3
   ·exact h1.mono (N0 _) (by omega)
theorem zr.drop(h:zr v k L S)(p:Int):zr v k L (J1 S p).1:=by
 unfold J1
 split
 ·exact h
 ·split
  ·exact h
  ·rename_i id dst s hx
   exact h.erase hx
theorem zr.copy(h:zr v k L S)(hL:L<=3000000000)(p:Int):zr v k (L+1) (Yw S p).1:=by
 unfold Yw
 split
 ·exact h.mono (N0 _) (by omega)
 ·split
  ·exact h.mono (N0 _) (by omega)
  ·rename_i id dst s hx
   have hok:=h.notes _ (List.mem_of_getElem? hx);simp only
   by_cases hr:1000<=S.notes.length
   ·have hl:yu S dst s=(S,0,30):=by unfold yu;rw [if_pos hr]
    rw [hl];exact h.mono (N0 _) (by omega)
   ·cases hu:zJ id S.hurt with
    |none=>
     have h1:=h.launch (by omega) (d:=dst) (s:=s) hok.dst hok.form S.hurt (λ_ e=>e) (λ_=>hok.sum hu) (by omega);have h2:=(vy S dst s).2.2.2.2;rw [h1.1,if_neg (by simp),if_neg (by simp)];rw [← h2] at h1;exact h1.2
    |some u=>
     have hnone:∀i,zJ i (put (S.last+1) () S.hurt)=none->zJ i S.hurt=none:=λi e=>by
      rw [vL] at e
      split at e
      ·cases e
      ·exact e
     have h1:=h.launch (by omega) (d:=dst) (s:=s) hok.dst hok.form (put (S.last+1) () S.hurt) hnone (λe=>by rw [vL,if_pos rfl] at e;cases e) (by omega);have h2:=(vy S dst s).2.2.2.2;rw [h1.1,if_neg (by simp),if_pos (by simp),h2];exact h1.2
theorem zdc(s:List UInt8)(bit:Int)(mask:Nat):(j9 s bit mask).1.length<=s.length:=by
 unfold j9
 split
 ·simp
 ·simp only [N1,xT,N7,U3];omega
theorem zr.harm(h:zr v k L S)(p bit:Int){mask:Nat}(hm:mask<4294967296):zr v k L (Jd S p bit mask).1:=by
 unfold Jd
 split
 ·exact h
 ·split
  ·exact h
  ·rename_i id dst s hx
   have hok:=h.notes _ (List.mem_of_getElem? hx)
   split
   ·exact h
   split
   ·exact h
   ·rename_i hu hc
    have hu':zJ id S.hurt=none:=by simpa using hu
    have hc':(j9 s bit mask).2=0:=by simpa using hc
    obtain⟨hl5,hop, -⟩:=(hok.sum hu').dec h.n0.2 hok.dst;obtain⟨b,hb⟩:=Option.isSome_iff_exists.1 hop;have hbu:=zkQ hb (bit:=bit) hm hc'
    have hmap:(S.notes.set p.toNat (id,dst,(j9 s bit mask).1)).map (·.1)=S.notes.map (·.1):=by
     rw [List.map_set]
     apply List.ext_getElem?
     intro j
     by_cases hj:p.toNat=j
     ·subst hj
      rw [List.getElem?_set_self (by simpa using(N6.1 hx).1),List.getElem?_map,hx];rfl
     ·rw [List.getElem?_set_ne hj]
    have hnone:∀i,zJ i (put id () S.hurt)=none->zJ i S.hurt=none:=λi e=>by
     rw [vL] at e
     split at e
     ·cases e
     ·exact e
    refine⟨h.n0,h.nodes,h.seatsN,h.seats,h.leadsN,h.leads,by simpa using h.notesN,λy hy=>?_,by show((S.notes.set _ _).map _).Nodup;rw [hmap];exact h.ids,λy hy=>?_,h.last,h.trace⟩
    ·rcases List.mem_or_eq_of_mem_set hy with hy|hy
     ·have:=h.notes y hy
      exact⟨this.dst,this.form,λe=>this.sum (hnone _ e)⟩
     ·subst hy
      refine⟨hok.dst,?_,λe=>?_⟩
      ·rcases hbu with hbu|hbu
       ·exact .inl ⟨hbu,Nat.le_trans (zdc _ _ _) hl5⟩
       ·simp only [hbu];exact hok.form
      ·rw [vL,if_pos rfl] at e;cases e
    ·rcases List.mem_or_eq_of_mem_set hy with hy|hy
     ·exact h.least y hy
     ·subst hy;exact h.least (id,dst,s) (List.mem_of_getElem? hx)
theorem yz.few {n:zv}(h:yz v n):n.acc.length<=116508/\n.loc.log.length<=640000:=by
 have hb:=h.ok.bounds;have:=hb.2.2.2.len;omega
theorem zr.tellOne(h:zr v k L S)(d:Bool){i:Nat}(hi:i<S.nodes.length):zr v k L (tellOne S d i):=by
 have hs:=h.seat hi;have hb:=h.seats i _ hs;have hf:=(h.node hi).2.few;have ht:=h.trace
 have gen:∀(s':xU)(tr:List zb8),s'.greatest=(jG S i).greatest->s'.accepted<=116508->s'.delivered<=640000->tr.length+((jG S i).accepted+(jG S i).delivered)<=s'.accepted+s'.delivered->zr v k L {Go.Proofs.YtobnhnidffipjaaGreatDoor.setSeat S i s' with trace:=S.trace++tr} :=by
  intro s' tr h1 h2 h3 h4;have hsum:=zhx (s':=s') (λs=>s.accepted+s.delivered) hs;refine⟨h.n0,h.nodes,by simpa [Go.Proofs.YtobnhnidffipjaaGreatDoor.setSeat] using h.seatsN,λj s hj=>?_,h.leadsN,h.leads,h.notesN,h.notes,h.ids,h.least,h.last,?_⟩
  ·have hj':(S.seats.set i s')[j]?=some s:=hj
   by_cases hij:i=j
   ·subst hij
    rw [List.getElem?_set_self (by rw [h.seatsN];exact hi)] at hj'
    cases hj'
    rw [h1];exact⟨hb.1,h2,h3⟩
   ·rw [List.getElem?_set_ne hij] at hj';exact h.seats j s hj'
  ·show(S.trace++tr).length<=k+((S.seats.set i s').map λs=>s.accepted+s.delivered).sum
   rw [N1];omega
 unfold Go.Proofs.YtobnhnidffipjaaGreatDoor.tellOne;simp only
 split
 ·split
  ·refine gen _ _ rfl hb.2.1 ?_ ?_
   ·show max _ _<=_;omega
   ·rw [List.length_map,U3]
    show _<=(jG S i).accepted+max _ _
    omega
  ·refine gen _ _ rfl ?_ hb.2.2 ?_
   ·show max _ _<=_;omega
   ·rw [List.length_map,U3]
    show _<=max _ _+(jG S i).delivered
    omega
 ·exact h
theorem J5(S:zj)(d:Bool)(i:Nat):(tellOne S d i).nodes=S.nodes:=by
 unfold tellOne;simp only
 split
 ·split<;>rfl
 ·rfl
theorem zr.tells(d:Bool):∀(js:List Nat)(S:zj),zr v k L S->(∀j∈js,j<S.nodes.length)->zr v k L (js.foldl (λw i=>Go.Proofs.YtobnhnidffipjaaGreatDoor.tellOne w d i) S)
 | [],S,h,_=>h
 |j::js,S,h,hj=>by
  rw [List.foldl_cons];exact zr.tells d js _ (h.tellOne d (hj j (List.mem_cons_self ..))) (λi hi=>by rw [J5];exact hj i (U7 _ hi))
theorem xX(d:Bool):∀(js:List Nat)(S:zj),(js.foldl (λw i=>tellOne w d i) S).nodes=S.nodes
 | [],_=>rfl
 |j::js,S=>by rw [List.foldl_cons,xX d js,J5]
theorem zr.tell(h:zr v k L S):zr v k L (ZN S):=by
 unfold ZN;have h1:=zr.tells false (List.range S.nodes.length) S h (λj hj=>List.mem_range.1 hj);exact zr.tells true _ _ h1 (λj hj=>by rw [xX];exact List.mem_range.1 hj)
theorem zbM(known:List (Int×List UInt8)):∀(f i:Nat),JF known f i<=i+f
 |0,i=>N0 _
 |f+1,i=>by
  unfold JF
  split
  ·have:=zbM known f (i+1);omega
  ·omega
theorem yz.next {n:zv}(h:yz v n):vM n<=30000:=by
 have:=zbM n.pax.known 10001 (n.applied+1);have hb:=h.ok.bounds;unfold vM;omega
theorem J6(n:zv):(yt n).1.length<=4000:=by
 unfold yt
 split
 ·simp
 ·split
  ·exact Xj _
  ·split
   ·exact Xj _
   ·exact YX _ _ _ _ (by simp)
theorem zal {b node:Nat}(_:(jP b node).2=0):(jP b node).1<=1152921504606847008:=by
 unfold jP
 split
 ·omega
 ·rename_i h
  split<;>simp only<;>omega
theorem zr.propose(h:zr v k L S)(hL:L<=3000000000){i:Nat}(hi:i<S.nodes.length):zr v k (L+16) (yr S i).1:=by
 unfold yr
 split
 ·exact h.mono (N0 _) (by omega)
 split
 ·exact h.mono (N0 _) (by omega)
 ·rename_i hb
  have hb':(jP (jG S i).greatest i).2=0:=by simpa using hb
  have hbl:=zal hb';simp only;have hnx:=(h.node hi).2.next;have h1:=h.setSeat hi {jG S i with greatest:=(jP (jG S i).greatest i).1} ⟨hbl,rfl,rfl⟩
  have h2:=h1.putLead i (l:={inst:=vM (zt S i),ballot:=(jP (jG S i).greatest i).1,value:=(yt (zt S i)).1,promises:=[],promised:=List.replicate 16 false,voted:=List.replicate 16 false,votes:=0,asked:=false,told:=false})
   ⟨⟨by show 0<=((vM (zt S i):Nat):Int);omega,by show((vM (zt S i):Nat):Int)<=30000;omega⟩,by show(jP _ _).1<_;omega,Nat.le_trans (J6 _) (by omega),by simp,by simp,by simp,by simp,by simp⟩
  exact h2.sendAll hL ⟨by omega,by omega⟩ ⟨by omega,by show(i:Int)<S.nodes.length;omega⟩
theorem zr.does(h:zr v k L S)(hL:L<=3000000000)(o:OpD)(hs:o.s.length<=300)(hm:o.mask<4294967296):zr v (k+1) (L+16) (doW (zp v) S o).1:=by
 unfold doW
 split
 ·exact h.mono (by omega) (by omega)
 split
 ·exact h.mono (by omega) (by omega)
 ·rename_i h1 h2
  have hd:zr v k (L+16) (yK S (zp v) o).1:=by
   have hi:¬(3<=o.kind/\o.kind<=6)->o.node.toNat<S.nodes.length:=λhk=>by
    have:¬(o.node<0∨(S.nodes.length:Int)<=o.node):=λe=>h2 ⟨hk,e⟩
    omega
   have h0:=h.mono (N0 k) (show L<=L+16 by omega);unfold yK;simp only
   split
   ·have hl:=hi (by omega)
    exact(h0.stale hl).setNode _ ((h.node hl).2.broadcast _ hs)
   split
   ·exact h.propose hL (hi (by omega))
   split
   ·exact h.take hL _
   split
   ·exact h0.drop _
   split
   ·exact(h.copy hL _).mono (N0 _) (by omega)
   split
   ·exact h0.harm _ _ hm
   split
   ·exact(h0.delLead _).setNode _ ((h.node (hi (by omega))).2.crash)
   split
   ·exact h0.setNode _ ((h.node (hi (by omega))).2.cut _)
   split
   ·have hl:=hi (by omega)
    exact((h0.stale hl).delLead _).setNode _ ((h.node hl).2.recover)
   split
   ·exact h0.setNode _ ((h.node (hi (by omega))).2.want _)
   ·exact h0
  have ht:=hd.tell;simp only
  split
  ·refine⟨ht.n0,ht.nodes,ht.seatsN,ht.seats,ht.leadsN,ht.leads,ht.notesN,ht.notes,ht.ids,ht.least,ht.last,?_⟩
   have:=ht.trace
   show((ZN _).trace++ [_]).length<=_
   rw [N1,U2]
   show _<=k+1+((ZN (yK S (zp v) o).1).seats.map λs=>s.accepted+s.delivered).sum
   omega
  ·exact ht.mono (by omega) (N0 _)
theorem Xl {v cap:Int}{n:Nat}(hn:1<=n/\n<=16)(h1:64<=cap)(h2:cap<=1048576):zr v 0 0 (JZ n v cap (zp v)):=by
 have hl:(JZ n v cap (zp v)).nodes.length=n:=by simp [JZ]
 refine⟨by rw [hl];exact hn,λi m hm=>?_,by rw [hl];simp [JZ],λi s hs=>?_,by simp [JZ],λi l hi=>?_,by simp [JZ],λx hx=>?_,by simp [JZ],λx hx=>?_,N0 _,by simp [JZ]⟩
 ·have hm':((List.range n).map λ(i:Nat)=>zhU i v cap [] (zp v))[i]?=some m:=hm
  rw [List.getElem?_map] at hm';obtain⟨j, -,rfl⟩:=Option.map_eq_some_iff.1 hm';exact yz.new h1 h2
 ·have hs':(List.replicate n zc3)[i]?=some s:=hs
  rw [List.getElem?_replicate] at hs'
  split at hs'
  ·cases hs';exact⟨by simp [zc3],by simp [zc3],by simp [zc3]⟩
  ·cases hs'
 ·simp [JZ,zJ] at hi
 ·simp [JZ] at hx
 ·simp [JZ] at hx
end
open Go Go.RowKit Go.Shelf Go.Extern.Stop Go.Stop Go.Extern
attribute [local go_sem] Oper.semAt_some zw zn
theorem zbN {S:zj}(hl:S.last<4294967295)(d:Int)(s:List UInt8):yu S d s=({S with last:=(jQ S.last S.notes d s).1,notes:=(jQ S.last S.notes d s).2.1},(jQ S.last S.notes d s).2.2):=by
 unfold yu jQ;rw [Nat.mod_eq_of_lt (by omega)]
 split<;>rfl
structure Xm(S:zj):Prop where
 notes:S.notes.length<=1000
 last:S.last<4294967000
 n0:1<=S.nodes.length/\S.nodes.length<=16
theorem zr.room {v:Int}{k L:Nat}{S:zj}(h:zr v k L S)(hL:L<=3000000000):Xm S:=⟨h.notesN,by have:=h.last;omega,h.n0⟩
def XV(S:zj)(k s d:Nat)(data:List UInt8):zj:=if(ZG (qx k s d data)).2=0 then {S with last:=(jQ S.last S.notes d (ZG (qx k s d data)).1).1,notes:=(jQ S.last S.notes d (ZG (qx k s d data)).1).2.1} else S
theorem Vh {S:zj}(h:S.last<4294967295)(k s d:Nat)(inst:Int)(ballot:Nat)(more:List UInt8):XV S k s d (xB inst ballot more)=xZ S (vq k s d inst ballot more):=by
 unfold XV xZ
 show _=if(ZG (qx k s d (xB inst ballot more))).2=0 then(yu S (d:Int) (ZG (qx k s d (xB inst ballot more))).1).1 else S
 rw [zbN h]
theorem Xn(B:Nat)(K:WK)(S:zj)(t:List Nat)(ow:Own)(b k s d:Nat)(hk:k<=31)(hs:s<16)(hd:d<16)(data:List UInt8)(hl:data.length<=1000000)(w:World)(h:zy B K S t ow w)(hg1:S.notes.length<=1000)(hg2:S.last<4294967295)(hb:Blk w b (zkH k s d data) 157):
 Calls prog 115 #[.pointer (some ⟨B,0,none⟩),.slice (some ⟨b,0,none⟩) 1 1] w (vi B K (XV S k s d data) t ow w (.tuple #[])):=by
 obtain⟨tv,lp,hI⟩:=h;have hB:=hI.blk;have hen:=λW=>zda k s d data hk hs hd hl W
 have hfl:=λW hW=>zfA K.fb S.last S.notes hg2 (t++ [16]) ow (d:Int) (by omega) (by omega) (ZG (qx k s d data)).1 W hW hg1
 unfold Jl at hen;unfold zkH at hb;obtain⟨S',hS'⟩:∃S',XV S k s d data=S':=⟨_,rfl⟩;have hS2:=hS';unfold XV at hS2;rw [hS']
 generalize ZG (qx k s d data)=q at*
 obtain⟨q1,q2⟩:=q;simp only at hen hfl hS2;replace hen:=G hen;replace hfl:=G hfl
 by_cases hq:q2=0
 ·rw [if_pos hq] at hS2
  have t1:(q2==0)=true:=by simp [hq]
  replace hS':=G hS';replace hS2:=G hS2;replace hq:=G hq
  go_enter func115,ntmps115
  go_wp2
  go_loopw [10] (λp10 wr=>(p10=.int .i64 0/\wr=w)∨(p10=.int .i64 1/\vi B K S' t ow w (.tuple #[]) (.returned (.tuple #[])) wr)) (λp10 _=>1 - (intOf p10).toNat)
  case atStart=>exact .inl ⟨rfl,rfl⟩
  case round=>
   rcases hrel with⟨rfl,rfl⟩|⟨rfl,hp⟩
   ·
     have c0:=hb.cell;have e0:=hB.cell;go_wp2_with fail
     refine(hen.out _).mono ?_;rintro e w1⟨rfl,hb1⟩;have hbw:Below wr.heap.size wr w1:=pbx;have k5:Blk w1 wr.heap.size #[.int .i64 1,.int .i64 k,.int .i64 s,.int .i64 d,.int .u32 0,.int .u32 0,.int .u32 0,.int .u32 0,.string (bs data)] 157:=(Blk.new rfl).call hb1;have kB1:=hB.call hbw;clear c0 e0;go_wp2_with fail
     refine zd [O 0,O 1,O 2,O 3,O 4,O 5,O 6,E 7] (some 7) (λw'=>Blk w' B #[.slice (some ⟨K.nb,0,none⟩) S.nodes.length K.nc,.slice (some ⟨K.sb,0,none⟩) S.nodes.length S.nodes.length,.map (some K.lm),.pointer (some ⟨K.fb,0,none⟩),.map (some K.hm),.map (some K.dm),tv] 72/\Blk w' wr.heap.size #[.int .i64 1,.int .i64 k,.int .i64 s,.int .i64 d,.int .u32 0,.int .u32 0,.int .u32 0,.int .u32 0,.string (bs data)] 157/\True) (by kernel_rfl) (by kernel_rfl) ⟨kB1.drew,k5.drew,trivial⟩ ?_
     (repeat (refine za (v:=?_) rfl rfl (λw' h=>?_) (λK k=>?_);rotate_left;obtain⟨f1,f2,_⟩:=h;have e1:=f1.cell;have e2:=f2.cell;go_simp;(try with_reducible rfl);go_simp;refine k _ ?_;clear k K))
     refine zc rfl (λK hK=>?_);go_wp2_with fail
     refine(hfl.out _ ((jk.loc _ _ _ _).below hI.flight (zo hbw))).mono ?_;rintro e w2⟨rfl,ow2,hs2,hF⟩;go_wp2;refine hK.out _ _ (λhh=>absurd rfl hh) ?_;clear hK;refine ze ?_;have hI2:=((zk.loc _ _ _ _ _ _).below hI (zo hbw)).setFlight hs2 hF;go_wp2
     go_roundw
     case rel=>exact .inr ⟨rfl,rfl,ow2,(zq.of_below t ow (zo hbw)).trans (hs2.mono (Sub.child t 16)),by rw [← hS2.out];exact⟨_,_,hI2⟩⟩
     case measure=>simp [intOf]
   ·obtain⟨-,ow',hs',hW'⟩:=hp
    go_wp2;go_end0
    exact⟨rfl,ow',hs',hW'⟩
 ·rw [if_neg hq] at hS2
  have t1:(q2==0)=false:=by simp [hq]
  replace hS':=G hS';replace hS2:=G hS2;replace hq:=G hq
  go_enter func115,ntmps115
  go_wp2
  go_loopw [10] (λp10 wr=>(p10=.int .i64 0/\wr=w)∨(p10=.int .i64 1/\vi B K S' t ow w (.tuple #[]) (.returned (.tuple #[])) wr)) (λp10 _=>1 - (intOf p10).toNat)
  case atStart=>exact .inl ⟨rfl,rfl⟩
  case round=>
   rcases hrel with⟨rfl,rfl⟩|⟨rfl,hp⟩
   ·
     have c0:=hb.cell;have e0:=hB.cell;go_wp2_with fail
     refine(hen.out _).mono ?_;rintro e w1⟨rfl,hb1⟩;have hbw:Below wr.heap.size wr w1:=pbx;have k5:Blk w1 wr.heap.size #[.int .i64 1,.int .i64 k,.int .i64 s,.int .i64 d,.int .u32 0,.int .u32 0,.int .u32 0,.int .u32 0,.string (bs data)] 157:=(Blk.new rfl).call hb1;have kB1:=hB.call hbw;clear c0 e0;have hI2:=(zk.loc _ _ _ _ _ _).below hI hbw;go_wp2
     go_roundw
     case rel=>exact .inr ⟨rfl,rfl,ow,zq.of_below t ow hbw,by rw [← hS2.out];exact⟨_,_,hI2⟩⟩
     case measure=>simp [intOf]
   ·obtain⟨-,ow',hs',hW'⟩:=hp
    go_wp2;go_end0
    exact⟨rfl,ow',hs',hW'⟩
theorem zfS(S:zj)(f:vx)(hn:S.notes.length<=1000)(hl:S.last<4294967295):(xZ S f).notes.length<=1000/\(xZ S f).last<=S.last+1/\(xZ S f).nodes=S.nodes:=by
 refine⟨?_,?_,(xE S f).1⟩
 ·unfold xZ yu
  split
  ·split
   ·exact hn
   ·show(S.notes++ [_]).length<=_
    rw [N1,U2];omega
  ·exact hn
 ·unfold xZ yu
  split
  ·split
   ·show S.last<=_;omega
   ·show(S.last+1)% 4294967296<=_;omega
  ·omega
def qU(S:zj)(kind src inst:Int)(ballot:Nat)(more:List UInt8)(j:Nat):zj:=(List.range j).foldl (λw (i:Nat)=>xZ w (vq kind src i inst ballot more)) S
theorem Xo(S:zj)(kind src inst:Int)(ballot:Nat)(more:List UInt8)(j:Nat):qU S kind src inst ballot more (j+1)=xZ (qU S kind src inst ballot more j) (vq kind src j inst ballot more):=by
 unfold qU;rw [List.range_succ,List.foldl_append];rfl
theorem Xp {S:zj}(h:Xm S)(kind src inst:Int)(ballot:Nat)(more:List UInt8):∀(j:Nat),j<=16->(qU S kind src inst ballot more j).notes.length<=1000/\(qU S kind src inst ballot more j).last<=S.last+j/\(qU S kind src inst ballot more j).nodes=S.nodes
 |0,_=>⟨h.notes,N0 _,rfl⟩
 |j+1,hj=>by
  obtain⟨h1,h2,h3⟩:=Xp h kind src inst ballot more j (by omega);rw [Xo];have h4:=zfS (qU S kind src inst ballot more j) (vq kind src j inst ballot more) h1 (by have:=h.last;omega);exact⟨h4.1,by omega,h4.2.2.trans h3⟩
theorem Zr(B:Nat)(K:WK)(S:zj)(t:List Nat)(ht:t≠ [])(ow:Own)(k s:Nat)(hk:k<=31)(hs:s<16)(inst:Int)(ballot:Nat)(v:Value)(ts:List (List UInt8))(w:World)(h:zy B K S t ow w)(hg:Xm S)
 (hv:Src w v 1 ts.length (yB ts)) (hn:ts.length<=1000) (hl:ts.flatten.length<=900000) (hv0:∀a l c,v=.slice (some a) l c->ow a.block=[]):
 Calls prog 85 #[.pointer (some ⟨B,0,none⟩),.int .i64 k,.int .i64 s,xA inst ballot,v] w (vi B K (vj S k s inst ballot ts.flatten) t ow w (.tuple #[])):=by
 have hlt:=λ(j:Nat) W hW=>ZH k s j inst ballot v ts W hW hn (by omega)
 have hsd:=λ(j:Nat) hj ow W b hW h1 h2 hb=>Xn B K (qU S k s inst ballot ts.flatten j) t ow b k s j hk hs hj (xB inst ballot ts.flatten) (by unfold xB;rw [N1,show(le4 (inst % 4294967296).toNat++le8 ballot).length=12 from rfl];omega) W hW h1 h2 hb
 obtain⟨N,hN⟩:∃N,S.nodes.length=N:=⟨_,rfl⟩;have hN16:N<=16:=by have:=hg.n0;omega
 have h':=h;obtain⟨tv0,lp0,hI0⟩:=h';have hB0:=hI0.blk;have hlB:=hB0.lt;have hsA:vj S k s inst ballot ts.flatten=qU S k s inst ballot ts.flatten N:=by unfold vj qU;rw [hN]
 rw [hsA];have hroom:=Xp hg k s inst ballot ts.flatten;have hsucc:=λ(j:Nat) h1=>(Vh (S:=qU S k s inst ballot ts.flatten j) h1 k s j inst ballot ts.flatten).trans (Xo S k s inst ballot ts.flatten j).symm
 have hla:=hg.last;have hb1:Below w.heap.size w (w.alloc (.cells #[.int .i64 inst,.int .u64 (ballot:Nat)] 148)):=pbx;have hI1:=(zy.loc B K S t).cut h hb1;have km:Blk (w.alloc (.cells #[.int .i64 inst,.int .u64 (ballot:Nat)] 148)) w.heap.size #[.int .i64 inst,.int .u64 (ballot:Nat)] 148:=Blk.new rfl;have hv1:=hv.below hb1
 have hvn:∀a l c,v=.slice (some a) l c->¬Sub t ((ow.cut w) a.block):=λa l c e=>by
  by_cases hlt:a.block<w.heap.size
  ·rw [Own.cut_old hlt,hv0 a l c e];exact zi ht
  ·rw [Own.cut_new (by omega)];exact zi ht
 obtain⟨w1,hw1⟩:∃w1,w1=w.alloc (.cells #[.int .i64 inst,.int .u64 (ballot:Nat)] 148):=⟨_,rfl⟩;have hz1:w1.heap.size=w.heap.size+1:=by rw [hw1];simp
 rw [← hw1] at hb1 hI1 km hv1;have e0:=hB0.cell;have e1:=(hB0.call hb1).cell
 generalize hoc:ow.cut w=ow1 at*
 rw [hN] at e0 e1
 obtain⟨va,vn,vc,rfl⟩:∃a n c,v=.slice a n c:=by
  rcases hv.2 with⟨rfl, -⟩|⟨b,off,cap,rfl, -⟩<;>exact⟨_,_,_,rfl⟩
 unfold xA at*;replace hlt:=G hlt;replace hsd:=G hsd;replace hsA:=G hsA;replace hroom:=G hroom;replace hsucc:=G hsucc;replace hvn:=G hvn;replace hoc:=G hoc;replace hv1:=G hv1;replace km:=G km;clear hv hv0 h hB0 hI0
 go_enter func85,ntmps85
 go_wp2;rw [← hw1]
 go_loopw [16] (λp16 wr=>∃(j:Nat)(ow':Own),p16=.int .i64 (j:Nat)/\j<=N/\zq t ow1 w1 ow' wr/\zy B K (qU S k s inst ballot ts.flatten j) t ow' wr) (λp16 _=>N - (intOf p16).toNat)
 case atStart=>exact⟨0,ow1,rfl,by omega,zq.refl _ _ _,hI1⟩
 case round=>
  obtain⟨j,ow',rfl,hj,hst,hW⟩:=hrel;clear e0 e1
  by_cases hjN:j<N
  ·have t2:decide ((j:Int)<(N:Int))=true:=by simpa using hjN
   have hwj:IntKind.i64.wrap ((j:Int)+1)=(j:Int)+1:=by rw [N8];omega
   have hfr:=hst;rw [← hoc.out] at hfr;have hm:=hfr.free ht (k:=w.heap.size) (N0 _) (by omega);have cm:=(km.out.kept hm.1).cell;have hvr:=hv1.out.step hst (λa l c e=>hvn.out a l c e);go_wp2_with fail
   refine(hlt.out j _ hvr).mono ?_;rintro e w2⟨rfl,hb2⟩;unfold Jl;have hrj:=hroom.out j (by omega);go_wp2_with fail
   refine(hsd.out j (by omega) ow' _ _ ((zy.loc B K _ t).below hW (zg hb2 _)) hrj.1 (by omega) (Blk.new rfl)).mono ?_;rintro e w3⟨rfl,ow3,hs3,hW3⟩;rw [hsucc.out j (by omega)] at hW3;clear cm;go_wp2
   go_roundw
   case rel=>exact⟨j+1,ow3,by simp,by omega,hst.trans ((zq.of_below t ow' (zg hb2 _)).trans hs3),hW3⟩
   case measure=>simp [intOf];omega
  ·obtain rfl:j=N:=by omega
   have t2:decide ((j:Int)<(j:Int))=false:=by simp
   go_wp2;go_end0
   have hfr:=hst;rw [← hoc.out] at hfr;exact⟨rfl,ow',zq.wrap hb1 hfr,hW⟩
