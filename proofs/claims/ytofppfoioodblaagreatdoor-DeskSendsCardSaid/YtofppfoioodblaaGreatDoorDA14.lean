/- PARTS OF THE PROOF. -/
import Derived.Test.YtofppfoioodblaaGreatDoorDA13
set_option maxRecDepth 8000
set_option maxHeartbeats 4000000
namespace Go.Proofs.YtofppfoioodblaaGreatDoor
section
open Go
structure vA where
 kind:Nat
 src:Nat
 dst:Nat
 inst:Nat
 ballot:Nat
 more:List UInt8
def vA.ok(n:Nat)(l:vA):Prop:=l.kind<=7/\l.src<n/\l.dst<n/\l.inst<4294967296/\l.ballot<18446744073709551616/\l.more.length<=4084
def vA.note(l:vA):Int×List UInt8:=((l.dst:Int),(qU (ji l.kind l.src l.dst l.inst l.ballot l.more)).1)
structure IsW(W:zf)(ns:List zq)(ss:List jV)(ld:List (Int×ye))(ls:List vA)(tr:List Yv):Prop where
 nodes:W.nodes=ns
 seats:W.seats=ss
 leads:W.leads=ld
 notes:W.notes.map (·.2)=ls.map vA.note
 hurt:W.hurt=[]
 trace:W.trace=tr
variable {W:zf}{ns:List zq}{ss:List jV}{ld:List (Int×ye)}{ls:List vA}{tr:List Yv}
theorem IsW.len(h:IsW W ns ss ld ls tr):W.notes.length=ls.length:=by
 have:=congrArg List.length h.notes
 simpa using this
theorem IsW.send(h:IsW W ns ss ld ls tr)(l:vA)(hl:l.ok 16)(hf:ls.length<1000):IsW (y8 W (ji l.kind l.src l.dst l.inst l.ballot l.more)) ns ss ld (ls++ [l]) tr:=by
 obtain⟨h1,h2,h3,h4,h5,h6⟩:=hl;have hd:=zd8 (kind:=(l.kind:Int)) (src:=(l.src:Int)) (dst:=(l.dst:Int)) (data:=le4 ((l.inst:Int)% 4294967296).toNat++le8 l.ballot++l.more) (by omega) (by omega) (by omega) (by omega) (by omega) (by omega) (by rw [(XJ (l.inst:Int) l.ballot l.more (by omega) (by omega) h5).2.2.2];omega);rw [← Q9] at hd;unfold y8;rw [if_pos hd.1];unfold yr;rw [if_neg (by rw [h.len];omega)];refine⟨h.nodes,h.seats,h.leads,?_,h.hurt,h.trace⟩
 show(W.notes++ [((W.last+1)% 4294967296,(ji l.kind l.src l.dst l.inst l.ballot l.more).dst,(qU (ji l.kind l.src l.dst l.inst l.ballot l.more)).1)]).map (·.2)=_
 rw [List.map_append,h.notes,List.map_append];rfl
theorem IsW.sends(h:IsW W ns ss ld ls tr)(kind src inst ballot:Nat)(more:List UInt8):∀(js:List Nat),(∀j∈js,vA.ok 16 ⟨kind,src,j,inst,ballot,more⟩)->ls.length+js.length<=1000->
 IsW (js.foldl (λw (i:Nat)=>y8 w (ji kind src i inst ballot more)) W) ns ss ld (ls++js.map (λj=>⟨kind,src,j,inst,ballot,more⟩)) tr:=by
 intro js
 induction js generalizing W ls with
 |nil=>intro _ _;simpa using h
 |cons j js ih=>
  intro hj hl;have h1:=h.send ⟨kind,src,j,inst,ballot,more⟩ (hj j (List.mem_cons_self ..)) (by simp at hl;omega);have h2:=ih h1 (λk hk=>hj k (U7 _ hk)) (by simp at hl⊢;omega)
  simpa [List.append_assoc] using h2
theorem IsW.sendAll(h:IsW W ns ss ld ls tr)(kind src inst ballot:Nat)(more:List UInt8)(hok:∀j,j<ns.length->vA.ok 16 ⟨kind,src,j,inst,ballot,more⟩)(hl:ls.length+ns.length<=1000):
 IsW (j1 W kind src inst ballot more) ns ss ld (ls++(List.range ns.length).map (λj=>⟨kind,src,j,inst,ballot,more⟩)) tr:=by
 unfold j1;rw [h.nodes];exact h.sends kind src inst ballot more (List.range ns.length) (λj hj=>hok j (List.mem_range.1 hj)) (by simpa using hl)
theorem IsW.node(h:IsW W ns ss ld ls tr)(i:Nat):zn W i=ns[i]?.getD (zhq 0 0 0 [] (0,0,[])):=by unfold zn;rw [h.nodes]
theorem IsW.seat(h:IsW W ns ss ld ls tr)(i:Nat):jj W i=ss[i]?.getD yX:=by unfold jj;rw [h.seats]
theorem IsW.take {l:vA}(h:IsW W ns ss ld (l::ls) tr)(hl:l.ok 16){m:zq}(hm:ns[l.dst]?=some m)(hup:m.down=false):
 ∃V,IsW V ns ss ld ls tr/\(xL W 0).1=jr V l.dst l.kind l.src l.inst l.ballot l.more:=by
 obtain⟨h1,h2,h3,h4,h5,h6⟩:=hl
 cases hn:W.notes with
 |nil=>have:=h.len;rw [hn] at this;simp at this
 |cons x rest=>
  obtain⟨id,dst,s⟩:=x;have hx:=h.notes;rw [hn] at hx;simp only [List.map_cons,List.cons.injEq] at hx;obtain⟨ab,ac⟩:=hx;have aa:dst=(l.dst:Int)/\s=(qU (ji l.kind l.src l.dst l.inst l.ballot l.more)).1:=by simpa [vA.note] using ab
  obtain⟨rfl,rfl⟩:=aa;have ht:=zd9 (w:=W) (id:=id) (dst:=l.dst) (kind:=(l.kind:Int)) (src:=(l.src:Int)) (inst:=(l.inst:Int)) (ballot:=l.ballot) (more:=l.more) (rest:=rest) hn (by omega) (by omega) (by omega) (by omega) h3 (by omega) (by omega) h5 h6 (by rw [h.node,hm];exact hup);refine⟨{W with notes:=rest,hurt:=del id W.hurt},⟨h.nodes,h.seats,h.leads,ac,?_,h.trace⟩,by rw [ht]⟩
  show del id W.hurt=[]
  rw [h.hurt];rfl
end
section
open Go
def yR(ss:List jV):Prop:=∀i:Nat,(ss[i]?.getD yX).stale=false/\(ss[i]?.getD yX).lent=false
theorem zbb {w:zf}(h:yR w.seats)(d:Bool)(i:Nat):tellOne w d i=w:=by
 have h1:=h i;unfold tellOne;simp only;rw [show jj w i=w.seats[i]?.getD yX from rfl,h1.1,h1.2];simp
theorem XK {w:zf}(h:yR w.seats)(d:Bool)(l:List Nat):l.foldl (λw i=>tellOne w d i) w=w:=by
 induction l with
 |nil=>rfl
 |cons i l ih=>rw [List.foldl_cons,zbb h];exact ih
theorem Jm {w:zf}(h:yR w.seats):xp w=w:=by
 unfold xp;rw [XK h,XK h]
def y9(w:zf):zf:=xp (xL w 0).1
theorem zlA(s:StD)(w:zf):(doW s w ⟨3,0,0,0,0,[]⟩).1=y9 w:=by
 unfold doW vz y9;simp
variable {W:zf}{ns:List zq}{ss:List jV}{ld:List (Int×ye)}{ls:List vA}{tr:List Yv}
theorem IsW.setNode(h:IsW W ns ss ld ls tr)(j:Nat)(m:zq):IsW (setNode W j m) (ns.set j m) ss ld ls tr:=⟨by show W.nodes.set j m=_;rw [h.nodes],h.seats,h.leads,h.notes,h.hurt,h.trace⟩
theorem IsW.prepare {i j q b:Nat}{m m':zq}(h:IsW W ns ss ld (⟨3,i,j,q,b,[]⟩::ls) tr)(hq:yR ss)(hi:i<16)(hj:j<16)(hq2:q<4294967296)(hb:b<18446744073709551616)(hm:ns[j]?=some m)(hup:m.down=false)
 (hk:zH (q:Int) m.pax.known=none) (hp:zy m q b=(m',(b,0,[]),0)) (hl:ls.length<999):IsW (y9 W) (ns.set j m') ss ld (ls++ [⟨4,j,i,q,b,le8 0⟩]) tr:=by
 obtain⟨V,hV,ht⟩:=h.take ⟨by show 3<=7;omega,hi,hj,hq2,hb,by simp⟩ (m:=m) hm hup;have hn:zn V j=m:=by rw [hV.node,hm];rfl
 have hr:jr V j 3 i q b []=y8 (Go.Proofs.YtofppfoioodblaaGreatDoor.setNode V j m') (ji 4 j i q b (le8 0)):=by
  unfold jr;rw [if_pos (.inl rfl)];unfold yN;rw [hn,hk];simp only;rw [if_neg (by show¬((3:Int)=5);omega),hp];simp only;rw [if_pos trivial];rfl
 have hs:IsW (y8 (Go.Proofs.YtofppfoioodblaaGreatDoor.setNode V j m') (ji 4 j i q b (le8 0))) (ns.set j m') ss ld (ls++ [⟨4,j,i,q,b,le8 0⟩]) tr:=(hV.setNode j m').send ⟨4,j,i,q,b,le8 0⟩ ⟨by show 4<=7;omega,hj,hi,hq2,hb,by show(le8 0).length<=4084;decide⟩ (by omega);unfold y9;rw [show(xL W 0).1=_ from ht];have aa:jr V (⟨3,i,j,q,b,[]⟩:vA).dst ((⟨3,i,j,q,b,[]⟩:vA).kind:Int) ((⟨3,i,j,q,b,[]⟩:vA).src:Int) ((⟨3,i,j,q,b,[]⟩:vA).inst:Int) b []=y8 (Go.Proofs.YtofppfoioodblaaGreatDoor.setNode V j m') (ji 4 j i q b (le8 0)):=hr;rw [aa,Jm (by rw [hs.seats];exact hq)];exact hs
end
section
open Go
variable {W:zf}{ns:List zq}{ss:List jV}{ld:List (Int×ye)}{ls:List vA}{tr:List Yv}
theorem IsW.accept {i j q b:Nat}{x:List UInt8}{m m':zq}(h:IsW W ns ss ld (⟨5,i,j,q,b,x⟩::ls) tr)(hq:yR ss)(hi:i<16)(hj:j<16)(hq2:q<4294967296)(hb:b<18446744073709551616)(hx:x.length<=4084)(hm:ns[j]?=some m)(hup:m.down=false)
 (hk:zH (q:Int) m.pax.known=none) (hp:yH m q b x=(m',0)) (hl:ls.length<999):IsW (y9 W) (ns.set j m') ss ld (ls++ [⟨6,j,i,q,b,[]⟩]) tr:=by
 obtain⟨V,hV,ht⟩:=h.take ⟨by show 5<=7;omega,hi,hj,hq2,hb,hx⟩ (m:=m) hm hup;have hn:zn V j=m:=by rw [hV.node,hm];rfl
 have hr:jr V j 5 i q b x=y8 (Go.Proofs.YtofppfoioodblaaGreatDoor.setNode V j m') (ji 6 j i q b []):=by
  unfold jr;rw [if_pos (.inr rfl)];unfold yN;rw [hn,hk];simp only;rw [if_pos (show(ji 5 i j q b x).kind=5 from rfl),hp];simp only;rw [if_pos trivial];rfl
 have hs:IsW (y8 (Go.Proofs.YtofppfoioodblaaGreatDoor.setNode V j m') (ji 6 j i q b [])) (ns.set j m') ss ld (ls++ [⟨6,j,i,q,b,[]⟩]) tr:=(hV.setNode j m').send ⟨6,j,i,q,b,[]⟩ ⟨by show 6<=7;omega,hj,hi,hq2,hb,by simp⟩ (by omega);unfold y9;rw [show(xL W 0).1=_ from ht];have aa:jr V (⟨5,i,j,q,b,x⟩:vA).dst ((⟨5,i,j,q,b,x⟩:vA).kind:Int) ((⟨5,i,j,q,b,x⟩:vA).src:Int) ((⟨5,i,j,q,b,x⟩:vA).inst:Int) b x=y8 (Go.Proofs.YtofppfoioodblaaGreatDoor.setNode V j m') (ji 6 j i q b []):=hr;rw [aa,Jm (by rw [hs.seats];exact hq)];exact hs
theorem IsW.counted {l:vA}{m:zq}{ns':List zq}{ld':List (Int×ye)}{ls':List vA}(h:IsW W ns ss ld (l::ls) tr)(hq:yR ss)(hl:l.ok 16)(hm:ns[l.dst]?=some m)(hup:m.down=false)
 (hr:∀V,IsW V ns ss ld ls tr->IsW (jr V l.dst l.kind l.src l.inst l.ballot l.more) ns' ss ld' ls' tr):IsW (y9 W) ns' ss ld' ls' tr:=by
 obtain⟨V,hV,ht⟩:=h.take hl hm hup;have hs:=hr V hV;unfold y9;rw [show(xL W 0).1=_ from ht,Jm (by rw [hs.seats];exact hq)];exact hs
theorem IsW.setLeads(h:IsW W ns ss ld ls tr)(ld':List (Int×ye)):IsW {W with leads:=ld'} ns ss ld' ls tr:=⟨h.nodes,h.seats,rfl,h.notes,h.hurt,h.trace⟩
end
section
open Go
variable {W:zf}{ns:List zq}{ss:List jV}{ld:List (Int×ye)}{ls:List vA}{tr:List Yv}
theorem zkd:le8 0=[0,0,0,0,0,0,0,0]:=rfl
def yp(l:ye)(j b:Nat):ye:={l with promised:=l.promised.set j true,promises:=l.promises++ [(b,0,[])] }
theorem Yw {i j q b:Nat}{l:ye}(hV:IsW W ns ss ld ls tr)(hl:zH (i:Int) ld=some l)(h1:l.inst=(q:Int))(h2:l.ballot=b)(h3:l.promised[j]?.getD false=false)(h4:l.asked=false):
 countPromise W i j q b (le8 0)=(if 2*(yp l j b).promises.length<=ns.length then {W with leads:=put (i:Int) (yp l j b) W.leads}
  else if(Zo ns.length (yp l j b).promises l.value).2≠0 then {W with leads:=put (i:Int) (yp l j b) W.leads}
  else j1 {W with leads:=put (i:Int) {yp l j b with asked:=true,value:=(Zo ns.length (yp l j b).promises l.value).1} W.leads} 5 i q b (Zo ns.length (yp l j b).promises l.value).1):=by
 unfold countPromise;rw [hV.leads,hl];simp only;rw [if_neg (by rw [h1,h2,h3,h4,zkd];simp)];rw [hV.nodes];rfl
theorem Yx {i j q b:Nat}{l:ye}{more:List UInt8}(hV:IsW W ns ss ld ls tr)(hl:zH (i:Int) ld=some l)(h4:l.asked=true):countPromise W i j q b more=W:=by
 unfold countPromise;rw [hV.leads,hl];simp only;rw [if_pos (.inr (.inr (.inl (by simpa using h4))))]
def Yy(l:ye)(j:Nat):ye:={l with voted:=l.voted.set j true,votes:=l.votes+1}
theorem zaa {i j q b:Nat}{l:ye}(hV:IsW W ns ss ld ls tr)(hl:zH (i:Int) ld=some l)(h1:l.inst=(q:Int))(h2:l.ballot=b)(h3:l.voted[j]?.getD false=false)(h4:l.told=false):
 countVote W i j q b=(if 2*(Yy l j).votes<=ns.length then {W with leads:=put (i:Int) (Yy l j) W.leads} else j1 {W with leads:=put (i:Int) {Yy l j with told:=true} W.leads} 7 i q b l.value):=by
 unfold countVote;rw [hV.leads,hl];simp only;rw [if_neg (by rw [h1,h2,h3,h4];simp)];rw [hV.nodes];rfl
theorem XL {i j q b:Nat}{l:ye}(hV:IsW W ns ss ld ls tr)(hl:zH (i:Int) ld=some l)(h4:l.told=true):countVote W i j q b=W:=by
 unfold countVote;rw [hV.leads,hl];simp only;rw [if_pos (.inr (.inr (.inl (by simpa using h4))))]
theorem zke(n:Nat)(ps:List jE)(own:List UInt8)(hn:ps.length<=n)(hm:n<2*ps.length)(hp:∀v∈ps,∃b,v=(b,0,[]))(ho:own.length<=4000):Zo n ps own=(own,0):=by
 unfold Zo;rw [if_neg (by omega)]
 have aa:ps.all j9=true:=by
  rw [List.all_eq_true];intro v hv;obtain⟨b,rfl⟩:=hp v hv;simp [j9]
 rw [if_neg (by rw [aa];simp;omega)]
 have hf:∀(l:List jE)(x:jE),(∀v∈l,∃b,v=(b,0,[]))->l.foldl (λ(b:jE) v=>if b.2.1<v.2.1 then v else b) x=x:=by
  intro l
  induction l with
  |nil=>intro x _;rfl
  |cons v l ih=>
   intro x h;obtain⟨b,hv⟩:=h v (List.mem_cons_self ..);rw [List.foldl_cons,hv,if_neg (by simp)];exact ih x (λv hv=>h v (U7 _ hv))
 rw [hf ps _ hp]
end
section
open Go
def xz(ss:List jV)(j:Nat):Prop:=∀i:Nat,i≠j->(ss[i]?.getD yX).stale=false/\(ss[i]?.getD yX).lent=false
theorem zbc(w:zf)(d:Bool)(j i:Nat)(h:i≠j):(tellOne w d j).seats[i]?=w.seats[i]?:=by
 unfold tellOne;simp only
 split
 ·split
  ·show(w.seats.set j _)[i]?=_
   rw [List.getElem?_set_ne (Ne.symm h)]
  show(w.seats.set j _)[i]?=_
  rw [List.getElem?_set_ne (Ne.symm h)]
 rfl
theorem XM {w:zf}{j:Nat}(h:xz w.seats j)(d:Bool)(i:Nat)(hi:i≠j):tellOne w d i=w:=by
 have h1:=h i hi;unfold tellOne;simp only;rw [show jj w i=w.seats[i]?.getD yX from rfl,h1.1,h1.2];simp
theorem xz.tell {w:zf}{j:Nat}(h:xz w.seats j)(d:Bool):xz (tellOne w d j).seats j:=λi hi=>by rw [zbc w d j i hi];exact h i hi
theorem zgh {w:zf}{j:Nat}(h:xz w.seats j)(d:Bool):∀(l:List Nat),j∉l->l.foldl (λw i=>tellOne w d i) w=w:=by
 intro l
 induction l with
 |nil=>intro _;rfl
 |cons i l ih=>
  intro hj;rw [List.foldl_cons,XM h d i (λe=>hj (by rw [e];exact List.mem_cons_self ..))];exact ih (λe=>hj (U7 _ e))
theorem zcD {w:zf}{j:Nat}(h:xz w.seats j)(d:Bool):∀(l:List Nat),l.Nodup->j∈l->l.foldl (λw i=>tellOne w d i) w=tellOne w d j:=by
 intro l
 induction l with
 |nil=>intro _ hj;cases hj
 |cons i l ih=>
  intro hn hj;rw [List.foldl_cons];obtain⟨ab,aa⟩:=List.nodup_cons.1 hn
  by_cases hij:i=j
  ·subst hij
   exact zgh (h.tell d) d l ab
  rw [XM h d i hij]
  rcases List.mem_cons.1 hj with e|e
  ·exact absurd e.symm hij
  exact ih aa e
theorem zkf {w:zf}{j:Nat}(h:xz w.seats j)(hj:j<w.nodes.length):xp w=tellOne (tellOne w false j) true j:=by
 unfold xp;have hr:(List.range w.nodes.length).Nodup:=List.nodup_range;rw [zcD h false _ hr (List.mem_range.2 hj),zcD (h.tell false) true _ hr (List.mem_range.2 hj)]
variable {W:zf}{ns:List zq}{ss:List jV}{ld:List (Int×ye)}{ls:List vA}{tr:List Yv}
def QC(s:jV)(m:zq):jV:={s with accepted:=max s.accepted m.acc.length,delivered:=max s.delivered m.loc.log.length,stale:=false}
def zbd(s:jV)(j:Nat)(m:zq):List Yv:=(m.acc.drop s.accepted).map (λx=>(1,(j:Int),x))++(m.loc.log.drop s.delivered).map (λx=>(3,(j:Int),x))
theorem zab {V:zf}{j:Nat}{s:jV}{m:zq}(hV:IsW V ns ss ld ls tr)(hq:xz ss j)(hj:j<ns.length)(hs:ss[j]?=some s)(hst:s.stale=true)(hm:ns[j]?=some m):
 IsW (xp V) ns (ss.set j (QC s m)) ld ls (tr++zbd s j m):=by
 have aa:j<ss.length:=(N6.1 hs).1;rw [zkf (j:=j) (by rw [hV.seats];exact hq) (by rw [hV.nodes];exact hj)]
 have h1:tellOne V false j={setSeat V j {s with accepted:=max s.accepted m.acc.length} with trace:=V.trace++(m.acc.drop s.accepted).map λx=>(1,(j:Int),x)} :=by
  unfold tellOne;simp only;rw [hV.seat,hs,hV.node,hm];simp [hst]
 rw [h1]
 have h2:jj ({setSeat V j {s with accepted:=max s.accepted m.acc.length} with trace:=V.trace++(m.acc.drop s.accepted).map λx=>(1,(j:Int),x)} :zf) j={s with accepted:=max s.accepted m.acc.length} :=by
  show(V.seats.set j _)[j]?.getD yX=_
  rw [hV.seats,List.getElem?_set_self aa];rfl
 have h3:zn ({setSeat V j {s with accepted:=max s.accepted m.acc.length} with trace:=V.trace++(m.acc.drop s.accepted).map λx=>(1,(j:Int),x)} :zf) j=m:=by
  show V.nodes[j]?.getD _=m
  rw [hV.nodes,hm];rfl
 unfold tellOne;simp only;rw [h2,h3];rw [if_pos (by simp [hst]),if_pos trivial];refine⟨hV.nodes,?_,hV.leads,hV.notes,hV.hurt,?_⟩
 ·show(V.seats.set j _).set j _=_
  rw [hV.seats,List.set_set];rfl
 show(V.trace++_)++_=_
 rw [hV.trace,List.append_assoc];rfl
theorem IsW.decided {i j q b:Nat}{x:List UInt8}{m:zq}{s:jV}(h:IsW W ns ss ld (⟨7,i,j,q,b,x⟩::ls) tr)(hq:yR ss)(hi:i<16)(hj:j<16)(hq2:q<4294967296)(hb:b<18446744073709551616)(hx:x.length<=4084)(hm:ns[j]?=some m)(hs:ss[j]?=some s)(hup:m.down=false):
 IsW (y9 W) (ns.set j (jd m q x).1) (ss.set j (QC s (jd m q x).1)) ld ls (tr++zbd s j (jd m q x).1):=by
 obtain⟨V,hV,ht⟩:=h.take ⟨by show 7<=7;omega,hi,hj,hq2,hb,hx⟩ (m:=m) hm hup;have hn:zn V j=m:=by rw [hV.node,hm];rfl
 have ab:j<ns.length:=(N6.1 hm).1;have ad:j<ss.length:=(N6.1 hs).1
 have hr:jr V j 7 i q b x=Go.Proofs.YtofppfoioodblaaGreatDoor.setNode (qk V j) j (jd m q x).1:=by
  unfold jr;rw [if_neg (by omega),if_neg (by omega),if_neg (by omega),if_pos rfl,hn]
 have ac:IsW (Go.Proofs.YtofppfoioodblaaGreatDoor.setNode (qk V j) j (jd m q x).1) (ns.set j (jd m q x).1) (ss.set j {s with stale:=true}) ld ls tr:=by
  refine⟨by show V.nodes.set j _=_;rw [hV.nodes],?_,hV.leads,hV.notes,hV.hurt,hV.trace⟩
  show V.seats.set j {jj V j with stale:=true} =_
  rw [hV.seat,hs,hV.seats];rfl
 have aa:xz (ss.set j {s with stale:=true}) j:=λk hk=>by rw [List.getElem?_set_ne (Ne.symm hk)];exact hq k
 have hT:=zab ac aa (by simpa using ab) (List.getElem?_set_self ad) rfl (List.getElem?_set_self ab);unfold y9;rw [show(xL W 0).1=_ from ht];have ae:jr V (⟨7,i,j,q,b,x⟩:vA).dst ((⟨7,i,j,q,b,x⟩:vA).kind:Int) ((⟨7,i,j,q,b,x⟩:vA).src:Int) ((⟨7,i,j,q,b,x⟩:vA).inst:Int) b x=Go.Proofs.YtofppfoioodblaaGreatDoor.setNode (qk V j) j (jd m q x).1:=hr;rw [ae];rw [List.set_set] at hT;exact hT
end
section
open Go
def jh:Nat->zf->zf
 |0,w=>w
 |k+1,w=>jh k (y9 w)
theorem qX:∀(a b:Nat)(w:zf),jh (a+b) w=jh b (jh a w)
 |0,b,w=>by rw [Nat.zero_add];rfl
 |a+1,b,w=>by rw [Nat.succ_add];exact qX a b (y9 w)
variable {ss:List jV}{ld:List (Int×ye)}{tr:List Yv}
theorem zfd {i q b:Nat}(hq:yR ss)(hi:i<16)(hq2:q<4294967296)(hb:b<18446744073709551616):∀(js:List Nat)(W:zf)(ns:List zq)(ls:List vA),js.Nodup->(∀j∈js,j<16/\∃m,ns[j]?=some m/\m.down=false/\zH (q:Int) m.pax.known=none/\(zy m q b).2=((b,0,[]),0))->ls.length+js.length<999->
 IsW W ns ss ld (js.map (λj=>⟨3,i,j,q,b,[]⟩)++ls) tr->
 IsW (jh js.length W) (js.foldl (λns j=>ns.modify j (λm=>(zy m q b).1)) ns) ss ld (ls++js.map (λj=>⟨4,j,i,q,b,le8 0⟩)) tr
 | [],W,ns,ls,_,_,_,h=>by simpa [jh] using h
 |j::js,W,ns,ls,hn,hm,hl,h=>by
  obtain⟨hj,m,h1,h2,h3,h4⟩:=hm j (List.mem_cons_self ..);obtain⟨hn1,hn2⟩:=List.nodup_cons.1 hn;have hs:=IsW.prepare (i:=i) (j:=j) (q:=q) (b:=b) (m:=m) (m':=(zy m q b).1) (ls:=js.map (λj=>⟨3,i,j,q,b,[]⟩)++ls) h hq hi hj hq2 hb h1 h2 h3 (by rw [← h4]) (by simp at hl⊢;omega)
  have hset:ns.modify j (λm=>(zy m q b).1)=ns.set j (zy m q b).1:=by
   apply List.ext_getElem?
   intro k;rw [List.getElem?_modify]
   by_cases hk:j=k
   ·subst hk
    rw [List.getElem?_set_self (N6.1 h1).1,h1];simp
   rw [List.getElem?_set_ne hk];simp [hk]
  have ih:=zfd hq hi hq2 hb js (y9 W) (ns.set j (zy m q b).1) (ls++ [⟨4,j,i,q,b,le8 0⟩]) hn2 (λk hk=>by
   obtain⟨g0,g⟩:=hm k (U7 _ hk);refine⟨g0,?_⟩;rw [List.getElem?_set_ne (λe=>hn1 (by rw [e];exact hk))]
   exact g) (by simp at hl⊢;omega) (by simpa [List.append_assoc] using hs)
  rw [List.foldl_cons,hset,List.length_cons]
  show IsW (jh js.length (y9 W)) _ _ _ _ _
  simpa [List.append_assoc] using ih
theorem zh8 {i q b:Nat}{x:List UInt8}(hq:yR ss)(hi:i<16)(hq2:q<4294967296)(hb:b<18446744073709551616)(hx:x.length<=4084):∀(js:List Nat)(W:zf)(ns:List zq)(ls:List vA),js.Nodup->(∀j∈js,j<16/\∃m,ns[j]?=some m/\m.down=false/\zH (q:Int) m.pax.known=none/\(yH m q b x).2=0)->ls.length+js.length<999->
 IsW W ns ss ld (js.map (λj=>⟨5,i,j,q,b,x⟩)++ls) tr->
 IsW (jh js.length W) (js.foldl (λns j=>ns.modify j (λm=>(yH m q b x).1)) ns) ss ld (ls++js.map (λj=>⟨6,j,i,q,b,[]⟩)) tr
 | [],W,ns,ls,_,_,_,h=>by simpa [jh] using h
 |j::js,W,ns,ls,hn,hm,hl,h=>by
  obtain⟨hj,m,h1,h2,h3,h4⟩:=hm j (List.mem_cons_self ..);obtain⟨hn1,hn2⟩:=List.nodup_cons.1 hn;have hs:=IsW.accept (i:=i) (j:=j) (q:=q) (b:=b) (m:=m) (m':=(yH m q b x).1) (ls:=js.map (λj=>⟨5,i,j,q,b,x⟩)++ls) h hq hi hj hq2 hb hx h1 h2 h3 (by rw [← h4]) (by simp at hl⊢;omega)
  have hset:ns.modify j (λm=>(yH m q b x).1)=ns.set j (yH m q b x).1:=by
   apply List.ext_getElem?
   intro k;rw [List.getElem?_modify]
   by_cases hk:j=k
   ·subst hk
    rw [List.getElem?_set_self (N6.1 h1).1,h1];simp
   rw [List.getElem?_set_ne hk];simp [hk]
  have ih:=zh8 hq hi hq2 hb hx js (y9 W) (ns.set j (yH m q b x).1) (ls++ [⟨6,j,i,q,b,[]⟩]) hn2 (λk hk=>by
   obtain⟨g0,g⟩:=hm k (U7 _ hk);refine⟨g0,?_⟩;rw [List.getElem?_set_ne (λe=>hn1 (by rw [e];exact hk))]
   exact g) (by simp at hl⊢;omega) (by simpa [List.append_assoc] using hs)
  rw [List.foldl_cons,hset,List.length_cons]
  show IsW (jh js.length (y9 W)) _ _ _ _ _
  simpa [List.append_assoc] using ih
end
section
open Go
def vX(q:Int)(x:List UInt8)(A:List zq×List jV×List Yv)(j:Nat):List zq×List jV×List Yv:=
 match A.1[j]?,A.2.1[j]? with
 |some m,some s=>(A.1.set j (jd m q x).1,A.2.1.set j (QC s (jd m q x).1),A.2.2++zbd s j (jd m q x).1)
 |_,_=>A
variable {ld:List (Int×ye)}
theorem zac {ss:List jV}(hq:yR ss)(j:Nat){s:jV}(hs:ss[j]?=some s)(m:zq):yR (ss.set j (QC s m)):=λi=>by
 by_cases hij:j=i
 ·subst hij
  rw [List.getElem?_set_self (N6.1 hs).1];have:=(hq j).2;rw [hs] at this;exact⟨rfl,this⟩
 rw [List.getElem?_set_ne hij];exact hq i
theorem zfe {i q b:Nat}{x:List UInt8}(hi:i<16)(hq2:q<4294967296)(hb:b<18446744073709551616)(hx:x.length<=4084):∀(js:List Nat)(W:zf)(A:List zq×List jV×List Yv)(ls:List vA),yR A.2.1->js.Nodup->(∀j∈js,j<16/\∃m s,A.1[j]?=some m/\A.2.1[j]?=some s/\m.down=false)->
 IsW W A.1 A.2.1 ld (js.map (λj=>⟨7,i,j,q,b,x⟩)++ls) A.2.2->
 IsW (jh js.length W) (js.foldl (vX q x) A).1 (js.foldl (vX q x) A).2.1 ld ls (js.foldl (vX q x) A).2.2/\yR (js.foldl (vX q x) A).2.1
 | [],W,A,ls,hq,_,_,h=>⟨by simpa [jh] using h,hq⟩
 |j::js,W,A,ls,hq,hn,hm,h=>by
  obtain⟨hj,m,s,h1,h2,h3⟩:=hm j (List.mem_cons_self ..);obtain⟨hn1,hn2⟩:=List.nodup_cons.1 hn;have hs:=IsW.decided (i:=i) (j:=j) (q:=q) (b:=b) (x:=x) (m:=m) (s:=s) (ls:=js.map (λj=>⟨7,i,j,q,b,x⟩)++ls) h hq hi hj hq2 hb hx h1 h2 h3;have hd:vX q x A j=(A.1.set j (jd m q x).1,A.2.1.set j (QC s (jd m q x).1),A.2.2++zbd s j (jd m q x).1):=by unfold vX;rw [h1,h2]
  rw [List.foldl_cons,hd,List.length_cons];refine zfe hi hq2 hb hx js (y9 W) _ ls (zac hq j h2 _) hn2 (λk hk=>?_) hs;obtain⟨g0,m',s',g1,g2,g3⟩:=hm k (U7 _ hk);have aa:j≠k:=λe=>hn1 (by rw [e];exact hk)
  exact⟨g0,m',s',by show(A.1.set j _)[k]?=_;rw [List.getElem?_set_ne aa];exact g1,by show(A.2.1.set j _)[k]?=_;rw [List.getElem?_set_ne aa];exact g2,g3⟩
end
section
open Go
variable {ns:List zq}{ss:List jV}{tr:List Yv}
theorem j2 {K V:Type} [DecidableEq K](i:K)(x:V):∀l:List (K×V),zH i (put i x l)=some x
 | []=>by unfold put zH;rw [if_pos rfl]
 |(a,b)::l=>by
  unfold put
  by_cases h:i=a
  ·rw [if_pos h];subst h;unfold zH;rw [if_pos rfl]
  rw [if_neg h];unfold zH;rw [if_neg h];exact j2 i x l
theorem Yz {i q b:Nat}{m:zq}(hq:yR ss)(hi:i<16)(hq2:q<4294967296)(hb:b<18446744073709551616)(hm:ns[i]?=some m)(hup:m.down=false):
 ∀(js:List Nat)(W:zf)(ld:List (Int×ye)) (l:ye) (ls:List vA),zH (i:Int) ld=some l->l.asked=true->(∀j∈js,j<16)->
 IsW W ns ss ld (js.map (λj=>⟨4,j,i,q,b,le8 0⟩)++ls) tr->IsW (jh js.length W) ns ss ld ls tr
 | [],W,ld,l,ls,_,_,_,h=>by simpa [jh] using h
 |j::js,W,ld,l,ls,hl,ha,hj,h=>by
  have hj1:=hj j (List.mem_cons_self ..)
  have h1:IsW (y9 W) ns ss ld (js.map (λj=>⟨4,j,i,q,b,le8 0⟩)++ls) tr:=by
   refine IsW.counted (l:=⟨4,j,i,q,b,le8 0⟩) (m:=m) h hq ⟨by show 4<=7;omega,hj1,hi,hq2,hb,by show(le8 0).length<=4084;decide⟩ hm hup (λV hV=>?_)
   have hr:jr V i (4:Nat) (j:Nat) (q:Nat) b (le8 0)=countPromise V i j q b (le8 0):=by
    unfold jr;rw [if_neg (by omega),if_pos (by omega)];rfl
   rw [show jr V (⟨4,j,i,q,b,le8 0⟩:vA).dst ((⟨4,j,i,q,b,le8 0⟩:vA).kind:Int) ((⟨4,j,i,q,b,le8 0⟩:vA).src:Int) ((⟨4,j,i,q,b,le8 0⟩:vA).inst:Int) b (le8 0)=_ from hr,Yx hV hl ha];exact hV
  exact Yz hq hi hq2 hb hm hup js (y9 W) ld l ls hl ha (λk hk=>hj k (U7 _ hk)) h1
theorem promises {i q b:Nat}{x:List UInt8}{m:zq}(hq:yR ss)(hi:i<16)(hq2:q<4294967296)(hb:b<18446744073709551616)(hx:x.length<=4000)(hn:ns.length<=16)(hm:ns[i]?=some m)(hup:m.down=false):
 ∀(js:List Nat)(W:zf)(ld:List (Int×ye)) (l:ye) (ls:List vA),zH (i:Int) ld=some l->l.inst=(q:Int)->l.ballot=b->l.value=x->l.asked=false->
 l.promises.length+js.length=ns.length->2*l.promises.length<=ns.length->1<=ns.length->(∀v∈l.promises,∃b,v=(b,0,[]))->(∀k∈js,l.promised[k]?.getD false=false)->js.Nodup->(∀j∈js,j<16)->ls.length+js.length+ns.length<999->
 IsW W ns ss ld (js.map (λj=>⟨4,j,i,q,b,le8 0⟩)++ls) tr->
 ∃ld' l',zH (i:Int) ld'=some l'/\l'.inst=(q:Int)/\l'.ballot=b/\l'.value=x/\l'.told=l.told/\l'.voted=l.voted/\l'.votes=l.votes/\
  IsW (jh js.length W) ns ss ld' (ls++(List.range ns.length).map (λj=>⟨5,i,j,q,b,x⟩)) tr
 | [],W,ld,l,ls,hl,h1,h2,h3,h4,h5,h6,h7,_,_,_,_,_,h=>by simp at h5;omega
 |j::js,W,ld,l,ls,hl,h1,h2,h3,h4,h5,h6,h7,hps,hpr,hnd,hj,hlen,h=>by
  have hj1:=hj j (List.mem_cons_self ..);obtain⟨hn1,hn2⟩:=List.nodup_cons.1 hnd;have hp1:=hpr j (List.mem_cons_self ..);simp only [List.length_cons] at h5 hlen;have hplen:(yp l j b).promises.length=l.promises.length+1:=by show(l.promises++ [_]).length=_;simp
  have hr:∀V,jr V i (4:Nat) (j:Nat) (q:Nat) b (le8 0)=countPromise V i j q b (le8 0):=λV=>by
   unfold jr;rw [if_neg (by omega),if_pos (by omega)];rfl
  have ab:vA.ok 16 ⟨4,j,i,q,b,le8 0⟩:=⟨by show 4<=7;omega,hj1,hi,hq2,hb,by show(le8 0).length<=4084;decide⟩
  by_cases hmaj:2*(l.promises.length+1)<=ns.length
  ·have hs:IsW (y9 W) ns ss (put (i:Int) (yp l j b) ld) (js.map (λj=>⟨4,j,i,q,b,le8 0⟩)++ls) tr:=by
    refine IsW.counted (l:=⟨4,j,i,q,b,le8 0⟩) (m:=m) h hq ab hm hup (λV hV=>?_)
    rw [show jr V (⟨4,j,i,q,b,le8 0⟩:vA).dst ((⟨4,j,i,q,b,le8 0⟩:vA).kind:Int) ((⟨4,j,i,q,b,le8 0⟩:vA).src:Int) ((⟨4,j,i,q,b,le8 0⟩:vA).inst:Int) b (le8 0)=_ from hr V,
     Yw hV hl h1 h2 hp1 h4,if_pos (by rw [hplen];exact hmaj),hV.leads]
    exact hV.setLeads _
   obtain⟨ld',l',g⟩:=promises hq hi hq2 hb hx hn hm hup js (y9 W) (put (i:Int) (yp l j b) ld) (yp l j b) ls (j2 _ _ _) h1 h2 h3 h4 (by rw [hplen];omega) (by rw [hplen];exact hmaj) h7
    (λv hv=>by
     rcases List.mem_append.1 (show v∈l.promises++ [(b,0,[])] from hv)with hv|hv
     ·exact hps v hv
     exact⟨b,by simpa using hv⟩)
    (λk hk=>by
     show(l.promised.set j true)[k]?.getD false=false
     rw [List.getElem?_set_ne (λe=>hn1 (by rw [e];exact hk))]
     exact hpr k (U7 _ hk)) hn2 (λk hk=>hj k (U7 _ hk)) (by omega) hs
   exact⟨ld',l',g⟩
  have aa:=zke ns.length (yp l j b).promises l.value (by rw [hplen];omega) (by rw [hplen];omega) (λv hv=>by
   rcases List.mem_append.1 (show v∈l.promises++ [(b,0,[])] from hv)with hv|hv
   ·exact hps v hv
   exact⟨b,by simpa using hv⟩) (by rw [h3];exact hx)
  have hs:IsW (y9 W) ns ss (put (i:Int) {yp l j b with asked:=true,value:=x} ld) (js.map (λj=>⟨4,j,i,q,b,le8 0⟩)++(ls++(List.range ns.length).map (λj=>⟨5,i,j,q,b,x⟩))) tr:=by
   refine IsW.counted (l:=⟨4,j,i,q,b,le8 0⟩) (m:=m) h hq ab hm hup (λV hV=>?_)
   rw [show jr V (⟨4,j,i,q,b,le8 0⟩:vA).dst ((⟨4,j,i,q,b,le8 0⟩:vA).kind:Int) ((⟨4,j,i,q,b,le8 0⟩:vA).src:Int) ((⟨4,j,i,q,b,le8 0⟩:vA).inst:Int) b (le8 0)=_ from hr V,
    Yw hV hl h1 h2 hp1 h4,if_neg (by rw [hplen];exact hmaj),aa,if_neg (by simp),hV.leads,h3,← List.append_assoc]
   exact(hV.setLeads _).sendAll 5 i q b x (λk hk=>⟨by show 5<=7;omega,hi,by show k<16;omega,hq2,hb,by show x.length<=4084;omega⟩) (by show(js.map (λj=>(⟨4,j,i,q,b,le8 0⟩:vA))++ls).length+ns.length<=1000;rw [N1,List.length_map];omega)
  have hL:=Yz hq hi hq2 hb hm hup js (y9 W) _ _ _ (j2 _ _ _) rfl (λk hk=>hj k (U7 _ hk)) hs;exact⟨_,{yp l j b with asked:=true,value:=x},j2 _ _ _,h1,h2,rfl,rfl,rfl,rfl,hL⟩
theorem zad {i q b:Nat}{m:zq}(hq:yR ss)(hi:i<16)(hq2:q<4294967296)(hb:b<18446744073709551616)(hm:ns[i]?=some m)(hup:m.down=false):
 ∀(js:List Nat)(W:zf)(ld:List (Int×ye)) (l:ye) (ls:List vA),zH (i:Int) ld=some l->l.told=true->(∀j∈js,j<16)->
 IsW W ns ss ld (js.map (λj=>⟨6,j,i,q,b,[]⟩)++ls) tr->IsW (jh js.length W) ns ss ld ls tr
 | [],W,ld,l,ls,_,_,_,h=>by simpa [jh] using h
 |j::js,W,ld,l,ls,hl,ha,hj,h=>by
  have hj1:=hj j (List.mem_cons_self ..)
  have h1:IsW (y9 W) ns ss ld (js.map (λj=>⟨6,j,i,q,b,[]⟩)++ls) tr:=by
   refine IsW.counted (l:=⟨6,j,i,q,b,[]⟩) (m:=m) h hq ⟨by show 6<=7;omega,hj1,hi,hq2,hb,by simp⟩ hm hup (λV hV=>?_)
   have hr:jr V i (6:Nat) (j:Nat) (q:Nat) b []=countVote V i j q b:=by
    unfold jr;rw [if_neg (by omega),if_neg (by omega),if_pos (by omega)];rfl
   rw [show jr V (⟨6,j,i,q,b,[]⟩:vA).dst ((⟨6,j,i,q,b,[]⟩:vA).kind:Int) ((⟨6,j,i,q,b,[]⟩:vA).src:Int) ((⟨6,j,i,q,b,[]⟩:vA).inst:Int) b []=_ from hr,XL hV hl ha];exact hV
  exact zad hq hi hq2 hb hm hup js (y9 W) ld l ls hl ha (λk hk=>hj k (U7 _ hk)) h1
theorem zff {i q b:Nat}{x:List UInt8}{m:zq}(hq:yR ss)(hi:i<16)(hq2:q<4294967296)(hb:b<18446744073709551616)(hx:x.length<=4000)(hn:ns.length<=16)(hm:ns[i]?=some m)(hup:m.down=false):
 ∀(js:List Nat)(W:zf)(ld:List (Int×ye)) (l:ye) (ls:List vA),zH (i:Int) ld=some l->l.inst=(q:Int)->l.ballot=b->l.value=x->l.told=false->
 l.votes+js.length=ns.length->2*l.votes<=ns.length->1<=ns.length->(∀k∈js,l.voted[k]?.getD false=false)->js.Nodup->(∀j∈js,j<16)->ls.length+js.length+ns.length<999->
 IsW W ns ss ld (js.map (λj=>⟨6,j,i,q,b,[]⟩)++ls) tr->
 ∃ld',IsW (jh js.length W) ns ss ld' (ls++(List.range ns.length).map (λj=>⟨7,i,j,q,b,x⟩)) tr
 | [],W,ld,l,ls,hl,h1,h2,h3,h4,h5,h6,h7,_,_,_,_,h=>by simp at h5;omega
 |j::js,W,ld,l,ls,hl,h1,h2,h3,h4,h5,h6,h7,hpr,hnd,hj,hlen,h=>by
  have hj1:=hj j (List.mem_cons_self ..);obtain⟨hn1,hn2⟩:=List.nodup_cons.1 hnd;have hp1:=hpr j (List.mem_cons_self ..);simp only [List.length_cons] at h5 hlen
  have hr:∀V,jr V i (6:Nat) (j:Nat) (q:Nat) b []=countVote V i j q b:=λV=>by
   unfold jr;rw [if_neg (by omega),if_neg (by omega),if_pos (by omega)];rfl
  have hok:vA.ok 16 ⟨6,j,i,q,b,[]⟩:=⟨by show 6<=7;omega,hj1,hi,hq2,hb,by simp⟩
  by_cases hmaj:2*(l.votes+1)<=ns.length
  ·have hs:IsW (y9 W) ns ss (put (i:Int) (Yy l j) ld) (js.map (λj=>⟨6,j,i,q,b,[]⟩)++ls) tr:=by
    refine IsW.counted (l:=⟨6,j,i,q,b,[]⟩) (m:=m) h hq hok hm hup (λV hV=>?_)
    rw [show jr V (⟨6,j,i,q,b,[]⟩:vA).dst ((⟨6,j,i,q,b,[]⟩:vA).kind:Int) ((⟨6,j,i,q,b,[]⟩:vA).src:Int) ((⟨6,j,i,q,b,[]⟩:vA).inst:Int) b []=_ from hr V,
     zaa hV hl h1 h2 hp1 h4,if_pos (show 2*(Yy l j).votes<=ns.length from hmaj),hV.leads]
    exact hV.setLeads _
   exact zff hq hi hq2 hb hx hn hm hup js (y9 W) (put (i:Int) (Yy l j) ld) (Yy l j) ls (j2 _ _ _) h1 h2 h3 h4 (by show l.votes+1+js.length=_;omega) hmaj h7
    (λk hk=>by
     show(l.voted.set j true)[k]?.getD false=false
     rw [List.getElem?_set_ne (λe=>hn1 (by rw [e];exact hk))]
     exact hpr k (U7 _ hk)) hn2 (λk hk=>hj k (U7 _ hk)) (by omega) hs
  have hs:IsW (y9 W) ns ss (put (i:Int) {Yy l j with told:=true} ld) (js.map (λj=>⟨6,j,i,q,b,[]⟩)++(ls++(List.range ns.length).map (λj=>⟨7,i,j,q,b,x⟩))) tr:=by
   refine IsW.counted (l:=⟨6,j,i,q,b,[]⟩) (m:=m) h hq hok hm hup (λV hV=>?_)
   rw [show jr V (⟨6,j,i,q,b,[]⟩:vA).dst ((⟨6,j,i,q,b,[]⟩:vA).kind:Int) ((⟨6,j,i,q,b,[]⟩:vA).src:Int) ((⟨6,j,i,q,b,[]⟩:vA).inst:Int) b []=_ from hr V,
    zaa hV hl h1 h2 hp1 h4,if_neg (show¬2*(Yy l j).votes<=ns.length from hmaj),hV.leads,h3,← List.append_assoc]
   exact(hV.setLeads _).sendAll 7 i q b x (λk hk=>⟨by show 7<=7;omega,hi,by show k<16;omega,hq2,hb,by show x.length<=4084;omega⟩) (by show(js.map (λj=>(⟨6,j,i,q,b,[]⟩:vA))++ls).length+ns.length<=1000;rw [N1,List.length_map];omega)
  exact⟨_,zad hq hi hq2 hb hm hup js (y9 W) _ _ _ (j2 _ _ _) rfl (λk hk=>hj k (U7 _ hk)) hs⟩
end
open Go
theorem zcE(w:zf)(d:Int)(s:List UInt8):w.notes.length<=(yr w d s).1.notes.length:=by
 unfold yr
 split
 ·exact N0 _
 simp
theorem Jn(w:zf)(f:yQ):w.notes.length<=(y8 w f).notes.length:=by
 unfold y8
 split
 ·exact zcE _ _ _
 exact N0 _
theorem XN(f:Nat->yQ):∀(l:List Nat)(w:zf),w.notes.length<=(l.foldl (λw i=>y8 w (f i)) w).notes.length
 | [],_=>N0 _
 |i::l,w=>Nat.le_trans (Jn w (f i)) (XN f l _)
theorem YA(w:zf)(kind src inst:Int)(b:Nat)(more:List UInt8):w.notes.length<=(j1 w kind src inst b more).notes.length:=XN (λi=>ji kind src i inst b more) _ w
theorem zcF(w:zf)(i:Nat)(f:yQ)(inst:Int)(b:Nat)(more:List UInt8):w.notes.length<=(yN w i f inst b more).notes.length:=by
 unfold yN
 split
 ·exact Jn _ _
 split
 ·simp only
  split
  ·exact Jn (setNode w i _) _
  exact N0 _
 simp only
 split
 ·exact Jn (setNode w i _) _
 exact N0 _
theorem YB(w:zf)(i src:Nat)(inst:Int)(b:Nat)(more:List UInt8):w.notes.length<=(countPromise w i src inst b more).notes.length:=by
 unfold countPromise
 split
 ·exact N0 _
 split
 ·exact N0 _
 simp only
 split
 ·exact N0 _
 split
 ·exact N0 _
 refine Nat.le_trans ?_ (YA _ _ _ _ _ _);exact N0 _
theorem XO(w:zf)(i src:Nat)(inst:Int)(b:Nat):w.notes.length<=(countVote w i src inst b).notes.length:=by
 unfold countVote
 split
 ·exact N0 _
 split
 ·exact N0 _
 simp only
 split
 ·exact N0 _
 refine Nat.le_trans ?_ (YA _ _ _ _ _ _);exact N0 _
theorem zbe(w:zf)(i:Nat)(f:yQ):w.notes.length<=(yG w i f).notes.length:=by
 unfold yG
 split
 ·exact N0 _
 simp only
 split
 ·exact zcF _ _ _ _ _ _
 split
 ·exact YB _ _ _ _ _ _
 split
 ·exact XO _ _ _ _ _
 split<;>exact N0 _
theorem zgi(w:zf):w.notes.length<=(xL w 0).1.notes.length+1:=by
 unfold xL;rw [if_neg (by omega)]
 split
 ·exact Nat.le_succ _
 rename_i id dst s hx
 have hl:(w.notes.eraseIdx (0:Int).toNat).length+1=w.notes.length:=by
  have:=(N6.1 hx).1;rw [List.length_eraseIdx_of_lt this];omega
 simp only
 split
 ·have:=zbe {w with notes:=w.notes.eraseIdx (0:Int).toNat,hurt:=del id w.hurt} dst.toNat (zgf s).1
  simp only at this⊢;omega
 simp only;omega
theorem zbf(w:zf)(d:Bool)(i:Nat):(tellOne w d i).notes=w.notes:=by
 unfold tellOne;simp only
 split
 ·split<;>rfl
 rfl
theorem JU(d:Bool):∀(l:List Nat)(w:zf),(l.foldl (λw i=>tellOne w d i) w).notes=w.notes
 | [],_=>rfl
 |i::l,w=>by rw [List.foldl_cons,JU d l,zbf]
theorem zgj(w:zf):(xp w).notes=w.notes:=by unfold xp;rw [JU,JU]
theorem zgk(w:zf):w.notes.length<=(y9 w).notes.length+1:=by
 unfold y9;rw [zgj];exact zgi w
def Seg:Nat->zf->Prop
 |0,_=>True
 |k+1,w=>w.notes.length≠0/\Seg k (y9 w)
theorem zae:∀(k:Nat)(w:zf),k<=w.notes.length->Seg k w
 |0,_,_=>trivial
 |k+1,w,h=>⟨by omega,zae k _ (by have:=zgk w;omega)⟩
theorem Seg.add:∀ {a b:Nat} {w:zf},Seg a w->Seg b (jh a w)->Seg (a+b) w
 |0,b,w,_,h2=>by rw [Nat.zero_add];exact h2
 |a+1,b,w,h1,h2=>by
  rw [Nat.succ_add];exact⟨h1.1,Seg.add h1.2 h2⟩
theorem Z1 {α:Type}(f:α->α):∀(js:List Nat)(ns:List α),js.Nodup->∀k:Nat,(js.foldl (λns j=>ns.modify j f) ns)[k]?=if k∈js then(ns[k]?).map f else ns[k]?
 | [],ns,_,k=>by simp
 |j::js,ns,h,k=>by
  obtain⟨h1,h2⟩:=List.nodup_cons.1 h;rw [List.foldl_cons,Z1 f js _ h2 k,List.getElem?_modify]
  by_cases hk:k∈js
  ·have hjk:¬j=k:=λe=>h1 (by rw [e];exact hk)
   rw [if_pos hk,if_pos (U7 _ hk)]
   cases ns[k]?<;>simp [hjk]
  rw [if_neg hk]
  by_cases hjk:j=k
  ·subst hjk
   rw [if_pos (List.mem_cons_self ..)]
   cases ns[j]?<;>simp
  rw [if_neg (by simp [hk];exact λe=>hjk e.symm)]
  cases ns[k]?<;>simp [hjk]
theorem JV {α:Type}(f:α->α)(ns:List α):(List.range ns.length).foldl (λns j=>ns.modify j f) ns=ns.map f:=by
 apply List.ext_getElem?
 intro k;rw [Z1 f _ _ List.nodup_range,List.getElem?_map]
 by_cases hk:k<ns.length
 ·rw [if_pos (List.mem_range.2 hk)]
 rw [if_neg (λh=>hk (List.mem_range.1 h)),List.getElem?_eq_none (by omega)];rfl
theorem XP(q:Int)(x:List UInt8):∀(js:List Nat)(A:List zq×List jV×List Yv),(∀j∈js,j<A.2.1.length)->(js.foldl (vX q x) A).1=js.foldl (λns j=>ns.modify j (λm=>(jd m q x).1)) A.1/\(js.foldl (vX q x) A).2.1.length=A.2.1.length/\
 ∀k:Nat,((js.foldl (vX q x) A).2.1[k]?.getD yX).greatest=(A.2.1[k]?.getD yX).greatest
 | [],A,_=>⟨rfl,rfl,λ_=>rfl⟩
 |j::js,A,h=>by
  obtain⟨s,hs⟩:∃s,A.2.1[j]?=some s:=⟨_,N3 (h j (List.mem_cons_self ..))⟩;rw [List.foldl_cons,List.foldl_cons]
  cases hm:A.1[j]? with
  |none=>
   have hd:vX q x A j=A:=by unfold vX;rw [hm]
   have aa:A.1.modify j (λm=>(jd m q x).1)=A.1:=by
    apply List.ext_getElem?
    intro k;rw [List.getElem?_modify]
    by_cases hk:j=k
    ·subst hk;rw [hm];rfl
    cases A.1[k]?<;>simp [hk]
   rw [hd,aa];exact XP q x js A (λk hk=>h k (U7 _ hk))
  |some m=>
   have hd:vX q x A j=(A.1.set j (jd m q x).1,A.2.1.set j (QC s (jd m q x).1),A.2.2++zbd s j (jd m q x).1):=by unfold vX;rw [hm,hs]
   have aa:A.1.modify j (λm=>(jd m q x).1)=A.1.set j (jd m q x).1:=by
    apply List.ext_getElem?
    intro k;rw [List.getElem?_modify]
    by_cases hk:j=k
    ·subst hk
     rw [List.getElem?_set_self (N6.1 hm).1,hm];simp
    rw [List.getElem?_set_ne hk]
    cases A.1[k]?<;>simp [hk]
   rw [hd,aa];obtain⟨h1,h2,h3⟩:=XP q x js (A.1.set j (jd m q x).1,A.2.1.set j (QC s (jd m q x).1),A.2.2++zbd s j (jd m q x).1) (λk hk=>by simpa using h k (U7 _ hk));refine⟨h1,by rw [h2];simp,λk=>?_⟩;rw [h3 k]
   show((A.2.1.set j _)[k]?.getD yX).greatest=_
   by_cases hk:j=k
   ·subst hk
    rw [List.getElem?_set_self (N6.1 hs).1,hs];rfl
   rw [List.getElem?_set_ne hk]
variable {W:zf}{ns:List zq}{ss:List jV}{ld:List (Int×ye)}{tr:List Yv}
def zh9(m:zq)(b:Nat):ye:={inst:=yE m,ballot:=b,value:=(jN m).1,promises:=[],promised:=List.replicate 16 false,voted:=List.replicate 16 false,votes:=0,asked:=false,told:=false}
theorem JH {ss:List jV}(hq:yR ss)(i b:Nat):yR (ss.set i {ss[i]?.getD yX with greatest:=b}):=λk=>by
 by_cases hk:i=k
 ·subst hk
  by_cases hl:i<ss.length
  ·rw [List.getElem?_set_self hl];exact hq i
  rw [List.set_eq_of_length_le (by omega)];exact hq i
 rw [List.getElem?_set_ne hk];exact hq k
theorem zgl(s:StD)(hW:IsW W ns ss ld [] tr)(hq:yR ss){i b:Nat}{mi:zq}(hn:ns.length<=16)(hmi:ns[i]?=some mi)(hup:mi.down=false)
 (hb:jt (ss[i]?.getD yX).greatest i=(b,0)) (hb2:b<18446744073709551616) (hq2:yE mi<4294967296):
 IsW (doW s W ⟨2,i,0,0,0,[]⟩).1 ns (ss.set i {ss[i]?.getD yX with greatest:=b}) (put (i:Int) (zh9 mi b) ld) ((List.range ns.length).map λj=>⟨3,i,j,yE mi,b,[]⟩) tr:=by
 have hi:i<ns.length:=(N6.1 hmi).1;have ab:zn W i=mi:=by rw [hW.node,hmi];rfl
 have aa:jj W i=ss[i]?.getD yX:=hW.seat i
 have hd:(doW s W ⟨2,i,0,0,0,[]⟩).1=xp (j1 {setSeat W i {jj W i with greatest:=b} with leads:=put (i:Int) (zh9 mi b) W.leads} 3 i (yE mi:Nat) b []):=by
  unfold doW;rw [if_neg (by simp),if_neg (by rw [hW.nodes];simp;omega)];simp only;rw [if_neg (by simp)]
  show xp (vz W s ⟨2,i,0,0,0,[]⟩).1=_
  congr 1
  unfold vz;simp only;rw [if_neg (by omega),if_pos trivial];unfold yo;rw [Int.toNat_natCast,ab,hup,aa,hb];rfl
 have h1:IsW {setSeat W i {jj W i with greatest:=b} with leads:=put (i:Int) (zh9 mi b) W.leads} ns (ss.set i {ss[i]?.getD yX with greatest:=b}) (put (i:Int) (zh9 mi b) ld) [] tr:=by
  refine⟨hW.nodes,?_,by show put _ _ W.leads=_;rw [hW.leads],hW.notes,hW.hurt,hW.trace⟩
  show W.seats.set i {jj W i with greatest:=b} =_
  rw [aa,hW.seats]
 have h2:=h1.sendAll 3 i (yE mi) b [] (λj hj=>⟨by show 3<=7;omega,by show i<16;omega,by show j<16;omega,hq2,hb2,by simp⟩) (by simp;omega);have h3:=h2.seats;rw [hd,Jm (by show yR (j1 _ ((3:Nat):Int) _ _ _ _).seats;rw [h3];exact JH hq i b)]
 simpa using h2
def zmG(q:Int)(b:Nat)(x:List UInt8)(m:zq):zq:=(jd (yH (zy m q b).1 q b x).1 q x).1
def zia(q:Int)(x:List UInt8)(ns:List zq)(ss:List jV)(tr:List Yv):List zq×List jV×List Yv:=(List.range ns.length).foldl (vX q x) (ns,ss,tr)
theorem zkg(s:StD)(hW:IsW W ns ss ld [] tr)(hq:yR ss)(hss:ss.length=ns.length){i b q:Nat}{x:List UInt8}{mi:zq}(hn:ns.length<=16)(hmi:ns[i]?=some mi)
 (hb:jt (ss[i]?.getD yX).greatest i=(b,0)) (hb2:b<18446744073709551616) (hqe:yE mi=q) (hq2:q<4294967296) (hxe:(jN mi).1=x) (hxl:x.length<=4000)
 (hp:∀m∈ns,m.down=false/\zH (q:Int) m.pax.known=none/\(zy m q b).2=((b,0,[]),0)/\(zy m q b).1.down=false/\zH (q:Int) (zy m q b).1.pax.known=none/\
  (yH (zy m q b).1 q b x).2=0/\(yH (zy m q b).1 q b x).1.down=false):
 ∃ld' ss' tr',(ss',tr')=(zia q x (ns.map λm=>(yH (zy m q b).1 q b x).1) (ss.set i {ss[i]?.getD yX with greatest:=b}) tr).2/\
  IsW (jh (5*ns.length) (doW s W ⟨2,i,0,0,0,[]⟩).1) (ns.map (zmG q b x)) ss' ld' [] tr'/\yR ss'/\ss'.length=ns.length/\
  (∀k:Nat,(ss'[k]?.getD yX).greatest=((ss.set i {ss[i]?.getD yX with greatest:=b})[k]?.getD yX).greatest)/\Seg (5*ns.length) (doW s W ⟨2,i,0,0,0,[]⟩).1:=by
 have hi:i<ns.length:=(N6.1 hmi).1;have ak:=(hp mi (List.mem_of_getElem? hmi)).1;have h0:=zgl s hW hq hn hmi ak hb hb2 (by omega);rw [hqe] at h0
 generalize hW1:(doW s W ⟨2,i,0,0,0,[]⟩).1=W1 at h0⊢
 have ad:=JH hq i b
 generalize hss1:ss.set i {ss[i]?.getD yX with greatest:=b} =ss1 at h0 ad⊢
 have af:ss1.length=ns.length:=by rw [← hss1];simpa using hss
 have ae:(List.range ns.length).Nodup:=List.nodup_range;have ac:∀j∈List.range ns.length,j<16:=λj hj=>by have:=List.mem_range.1 hj;omega
 have ab:∀j∈List.range ns.length,∃m,ns[j]?=some m/\m∈ns:=λj hj=>⟨_,N3 (List.mem_range.1 hj),List.getElem_mem _⟩
 have s1:=zfd (i:=i) (q:=q) (b:=b) ad (by omega) hq2 hb2 (List.range ns.length) W1 ns [] ae (λj hj=>by
  obtain⟨m,hm,aa⟩:=ab j hj;obtain⟨g1,g2,g3, -⟩:=hp m aa
  exact⟨ac j hj,m,hm,g1,g2,g3⟩) (by simp;omega) (by simpa using h0)
 rw [JV,List.length_range,List.nil_append] at s1;have n1:(ns.map λm=>(zy m q b).1).length=ns.length:=List.length_map _;have ao:(ns.map λm=>(zy m q b).1)[i]?=some (zy mi q b).1:=by rw [List.getElem?_map,hmi];rfl
 have ag:=(hp mi (List.mem_of_getElem? hmi)).2.2.2.1
 obtain⟨an,l2,k1,k2,k3,k4,k5,k6,k7,s2⟩:=promises (ns:=ns.map λm=>(zy m q b).1) (i:=i) (q:=q) (b:=b) (x:=x) ad (by omega) hq2 hb2 hxl (by rw [n1];exact hn) ao ag (List.range ns.length) (jh ns.length W1) _ (zh9 mi b) [] (j2 _ _ _)
  (by show((yE mi:Nat):Int)=_;rw [hqe]) rfl hxe rfl (by rw [n1];show 0+_=_;simp) (by show 2*0<=_;omega) (by rw [n1];omega) (λv hv=>by cases hv) (λk hk=>by
   show((List.replicate 16 false)[k]?).getD false=false
   rw [List.getElem?_replicate,if_pos (ac k hk)];rfl) ae ac (by simp;omega) (by simpa using s1)
 rw [List.length_range,List.nil_append,n1] at s2
 have s3:=zh8 (i:=i) (q:=q) (b:=b) (x:=x) ad (by omega) hq2 hb2 (by omega) (List.range ns.length) (jh ns.length (jh ns.length W1)) _ [] ae (λj hj=>by
  obtain⟨m,hm,aa⟩:=ab j hj;obtain⟨-, -, -,g4,g5,g6, -⟩:=hp m aa
  exact⟨ac j hj,(zy m q b).1,by rw [List.getElem?_map,hm];rfl,g4,g5,g6⟩) (by simp;omega) (by simpa using s2)
 have e3:=JV (λm=>(yH m q b x).1) (ns.map λm=>(zy m q b).1);rw [n1] at e3;rw [e3,List.length_range,List.nil_append,List.map_map] at s3
 generalize hns2:ns.map ((λm=>(yH m q b x).1)∘ λm=>(zy m q b).1)=ns2 at s3
 have n2:ns2.length=ns.length:=by rw [← hns2];exact List.length_map _
 have am:ns2[i]?=some (yH (zy mi q b).1 q b x).1:=by rw [← hns2,List.getElem?_map,hmi];rfl
 have ah:=(hp mi (List.mem_of_getElem? hmi)).2.2.2.2.2.2
 obtain⟨ai,s4⟩:=zff (ns:=ns2) (i:=i) (q:=q) (b:=b) (x:=x) ad (by omega) hq2 hb2 hxl (by rw [n2];exact hn) am ah (List.range ns.length) (jh ns.length (jh ns.length (jh ns.length W1))) an l2 [] k1
  k2 k3 k4 (by rw [k5];rfl) (by rw [k7,n2];show 0+_=_;simp) (by rw [k7];show 2*0<=_;omega) (by rw [n2];omega) (λk hk=>by
   rw [k6]
   show((List.replicate 16 false)[k]?).getD false=false
   rw [List.getElem?_replicate,if_pos (ac k hk)];rfl) ae ac (by simp;omega) (by simpa using s3)
 rw [List.length_range,List.nil_append,n2] at s4
 obtain⟨s5,aj⟩:=zfe (ld:=ai) (i:=i) (q:=q) (b:=b) (x:=x) (by omega) hq2 hb2 (by omega) (List.range ns.length) (jh ns.length (jh ns.length (jh ns.length (jh ns.length W1)))) (ns2,ss1,tr) [] ad ae (λj hj=>by
  obtain⟨m,hm,aa⟩:=ab j hj;obtain⟨-, -, -, -, -, -,g7⟩:=hp m aa
  exact⟨ac j hj,(yH (zy m q b).1 q b x).1,ss1[j]'(by rw [af];exact List.mem_range.1 hj),by show ns2[j]?=_;rw [← hns2,List.getElem?_map,hm];rfl,N3 _,g7⟩) (by simpa using s4)
 obtain⟨d1,d2,d3⟩:=XP q x (List.range ns.length) (ns2,ss1,tr) (λj hj=>by rw [af];exact List.mem_range.1 hj);have e5:=JV (λm=>(jd m q x).1) ns2;rw [n2] at e5;rw [d1,List.length_range,e5] at s5;subst hns2;rw [List.map_map] at s5
 have al:∀w,jh (5*ns.length) w=jh ns.length (jh ns.length (jh ns.length (jh ns.length (jh ns.length w)))):=λw=>by
  rw [show 5*ns.length=ns.length+(ns.length+(ns.length+(ns.length+ns.length)))by omega,qX,qX,qX,qX]
 refine⟨ai,_,_,?_,by rw [al];exact s5,aj,by rw [d2];exact af,d3,?_⟩
 ·unfold zia
  rw [List.length_map];rfl
 have g0:Seg ns.length W1:=zae _ _ (by rw [h0.len];simp);have g1:Seg ns.length (jh ns.length W1):=zae _ _ (by rw [s1.len];simp);have g2:Seg ns.length (jh ns.length (jh ns.length W1)):=zae _ _ (by rw [s2.len];simp);have g3:Seg ns.length (jh ns.length (jh ns.length (jh ns.length W1))):=zae _ _ (by rw [s3.len];simp);have g4:Seg ns.length (jh ns.length (jh ns.length (jh ns.length (jh ns.length W1)))):=zae _ _ (by rw [s4.len];simp);rw [show 5*ns.length=ns.length+(ns.length+(ns.length+(ns.length+ns.length)))by omega];exact g0.add (g1.add (g2.add (g3.add g4)))
