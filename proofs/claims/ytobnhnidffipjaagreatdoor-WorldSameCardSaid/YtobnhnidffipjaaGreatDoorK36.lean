/- PARTS OF THE PROOF. -/
import Derived.Test.YtobnhnidffipjaaGreatDoorK30
import Derived.Test.YtobnhnidffipjaaGreatDoorK34
import Derived.Test.YtobnhnidffipjaaGreatDoorK35
set_option maxRecDepth 8000
set_option maxHeartbeats 4000000
open Go.Proofs.Tryz
namespace Go.Proofs.YtobnhnidffipjaaGreatDoor
section
open Go Go.RowKit Go.Shelf Go.Extern.Stop Go.Stop Go.Extern
attribute [local go_sem] Oper.semAt_some zw zm
theorem zd9(s:List UInt8)(h8:8<=s.length)(hs:s.length<=1000000)(w:World):Calls prog 163 #[.string (bs s)] w λe w'=>e=.returned (.int .u64 (z8 s 0+4294967296*z8 s 4:Nat))/\Below w.heap.size w w':=by
 have hsz:=zJ s;have hx0:=yQ s 4;have hx1:=yh s 4 8;unfold z8;rw [List.drop_zero];rw [show 8 - 4=4 from rfl] at hx1;have hl1:(s.take 4).length=4:=by rw [N7];omega
 have hl2:((s.drop 4).take 4).length=4:=by rw [N7,U3];omega
 have g1:=λW=>xQ (s.take 4) (by omega) W
 have g2:=λW=>xQ ((s.drop 4).take 4) (by omega) W
 rw [vL hl1] at g1;rw [vL hl2] at g2;have hb1:=vY (s.take 4);have hb2:=vY ((s.drop 4).take 4)
 generalize s.take 4=d1 at*
 generalize(s.drop 4).take 4=d2 at*
 generalize yn d1=n1 at*
 generalize yn d2=n2 at*
 have hor:=zcT n2 n1 hb2 hb1;have hor2:=zd3 n2 n1 hb2 hb1;replace hor2:=G hor2;have hw1:IntKind.u64.wrap (n2:Int)=(n2:Int):=by rw [IntKind.wrap_u64];omega
 have hw2:IntKind.u64.wrap (n1:Int)=(n1:Int):=by rw [IntKind.wrap_u64];omega
 have y1:(8:Int)<=((bs s).size:Int):=by omega
 have y2:(4:Int)<=((bs s).size:Int):=by omega
 replace hsz:=G hsz;replace g1:=G g1;replace g2:=G g2;clear h8 hs
 go_enter func163,ntmps163
 go_wp2_with fail
 refine(g1.out _).mono ?_;rintro e w1⟨rfl,hc1⟩;go_wp2_with fail
 refine(g2.out _).mono ?_;rintro e w2⟨rfl,hc2⟩;go_wp2;go_ret
 exact⟨by rw [← hor2.out];rfl,ze hc1 hc2⟩
def zjL(d:List UInt8):Value:=if d.length<12 then .tuple #[.agg #[.int .i64 0,.int .u64 0],.string ⟨#[]⟩,.bool false]
 else .tuple #[xB (z8 d 0:Nat) (z8 d 4+4294967296*z8 d 8),.string (bs (d.drop 12)),.bool true]
theorem zhm(k s t:Int)(d:List UInt8)(hd:d.length<=4096)(w:World):Calls prog 121 #[Jq k s t d] w λe w'=>e=.returned (zjL d)/\Below w.heap.size w w':=by
 have hsz:=zJ d;have kf:Blk ((w.alloc (.cells #[.int .i64 1,.int .i64 k,.int .i64 s,.int .i64 t,.int .u32 0,.int .u32 0,.int .u32 0,.int .u32 0,.string (bs d)] 157)).alloc (.cells #[.int .i64 0,.int .u64 0] 148)) w.heap.size #[.int .i64 1,.int .i64 k,.int .i64 s,.int .i64 t,.int .u32 0,.int .u32 0,.int .u32 0,.int .u32 0,.string (bs d)] 157:=(Blk.new rfl).alloc _;have km:Blk ((w.alloc (.cells #[.int .i64 1,.int .i64 k,.int .i64 s,.int .i64 t,.int .u32 0,.int .u32 0,.int .u32 0,.int .u32 0,.string (bs d)] 157)).alloc (.cells #[.int .i64 0,.int .u64 0] 148)) (w.heap.size+1) #[.int .i64 0,.int .u64 0] 148:=Blk.new (by simp);have hb0:Below w.heap.size w ((w.alloc (.cells #[.int .i64 1,.int .i64 k,.int .i64 s,.int .i64 t,.int .u32 0,.int .u32 0,.int .u32 0,.int .u32 0,.string (bs d)] 157)).alloc (.cells #[.int .i64 0,.int .u64 0] 148)):=pbx;unfold zjL Jq
 by_cases hl:d.length<12
 ·rw [if_pos hl]
  have t1:decide (((bs d).size:Int)<12)=true:=by rw [hsz];simp;omega
  replace hsz:=G hsz;clear hl kf hd;replace km:=G km;replace hb0:=G hb0
  go_enter func121,ntmps121
  go_wp2;exact bodyPost_ret (v:=.tuple #[.agg #[.int .i64 0,.int .u64 0],.string ⟨#[]⟩,.bool false]) (by simp [results,Tryz.results121,go_sem]) rfl ⟨rfl,hb0.out⟩
 ·rw [if_neg hl]
  have t1:decide (((bs d).size:Int)<12)=false:=by rw [hsz];simp;omega
  have hx0:=yQ d 4;have hx1:=yh d 4 12;have hx2:=ji d 12;rw [show 12 - 4=8 from rfl] at hx1;have hl1:(d.take 4).length=4:=by rw [N7];omega
  have g1:=λW=>xQ (d.take 4) (by omega) W
  rw [vL hl1] at g1;have hl2:((d.drop 4).take 8).length=8:=by rw [N7,U3];omega
  have g2:=λW=>zd9 ((d.drop 4).take 8) (by omega) (by omega) W
  have e1:z8 ((d.drop 4).take 8) 0=z8 d 4:=by unfold z8;rw [List.drop_zero,List.take_take];rfl
  have e2:z8 ((d.drop 4).take 8) 4=z8 d 8:=by unfold z8;rw [List.drop_take,List.take_take,List.drop_drop];rfl
  rw [e1,e2] at g2;have e0:yn (d.take 4)=z8 d 0:=rfl;rw [e0] at g1;have hq:=vY (d.take 4);rw [e0] at hq;have hw0:IntKind.i64.wrap ((z8 d 0:Nat):Int)=((z8 d 0:Nat):Int):=by rw [N8];omega
  have y1:(4:Int)<=((bs d).size:Int):=by omega
  have y2:(12:Int)<=((bs d).size:Int):=by omega
  have y3:((bs d).size:Int)<=4096:=by omega
  unfold xB
  generalize z8 d 4+4294967296*z8 d 8=bal at*
  generalize z8 d 0=ins at*
  generalize(d.drop 4).take 8=d8 at*
  generalize d.take 4=d4 at*
  generalize d.drop 12=d12 at*
  have c0:=kf.cell;replace hsz:=G hsz;replace g1:=G g1;replace g2:=G g2;clear hl hd hl1 hl2 hq e0 e1 e2
  go_enter func121,ntmps121
  go_wp2_with fail
  refine(g1.out _).mono ?_;rintro e w1⟨rfl,hb1⟩;have hb1w:=ze hb0 hb1;have k1:=kf.call hb1;have m1:=km.call hb1;clear c0;go_wp2_with fail
  refine zd [O 0,O 1,O 2,O 3,O 4,O 7,O 8,O 9,E 5,E 6,E 10,O 11,O 12] none (λw'=>Blk w' w.heap.size #[.int .i64 1,.int .i64 k,.int .i64 s,.int .i64 t,.int .u32 0,.int .u32 0,.int .u32 0,.int .u32 0,.string (bs d)] 157/\True) (by kernel_rfl) (by kernel_rfl) ⟨k1.drew,trivial⟩ ?_
  (repeat (refine za (v:=?_) rfl rfl (λw' h=>?_) (λK k=>?_);rotate_left;obtain⟨f1,_⟩:=h;have e1:=f1.cell;go_simp;(try with_reducible rfl);go_simp;refine k _ ?_;clear k K))
  refine zc rfl (λK hK=>?_);go_wp2_with fail
  refine(g2.out _).mono ?_;rintro e w2⟨rfl,hb2⟩;have hb2w:=ze (zn hb1w) hb2;have k2:=k1.drew.call hb2;have m2:=m1.drew.call hb2;have hne:w.heap.size≠w.heap.size+1:=by omega
  go_wp2;refine hK.out _ _ (λ_=>⟨k2,trivial⟩) ?_;clear hK K;have d0:w2.cell? ⟨w.heap.size+1,0,none⟩=some (.int .i64 0):=m2.cell 0;have d1:w2.cell? ⟨w.heap.size+1,1,none⟩=some (.int .u64 0):=m2.cell 1;have f2:=m2.frozen;have l2:=m2.lt
  (repeat (refine za (v:=?_) rfl rfl (λw' h=>?_) (λK k=>?_);rotate_left;obtain⟨f1,_⟩:=h;have e1:=f1.cell;go_simp;(try with_reducible rfl);go_simp;refine k _ ?_;clear k K))
  refine zc rfl (λK hK=>?_);go_wp2;refine hK.out _ _ (λ_=>⟨k2,trivial⟩) ?_;clear hK K
  (repeat (refine za (v:=?_) rfl rfl (λw' h=>?_) (λK k=>?_);rotate_left;obtain⟨f1,_⟩:=h;have e1:=f1.cell;go_simp;(try with_reducible rfl);go_simp;refine k _ ?_;clear k K))
  refine zc rfl (λK hK=>?_);go_wp2;refine hK.out _ _ (λ_=>⟨(k2.other (p:=⟨w.heap.size+1,0,none⟩) hne (.int .i64 ins)).other (p:=⟨w.heap.size+1,1,none⟩) hne (.int .u64 bal),trivial⟩) ?_;clear hK K
  (repeat (refine za (v:=?_) rfl rfl (λw' h=>?_) (λK k=>?_);rotate_left;obtain⟨f1,_⟩:=h;have e1:=f1.cell;go_simp;(try with_reducible rfl);go_simp;refine k _ ?_;clear k K))
  refine zf ?_;have rr:=((m2.set (o:=0) (.int .i64 ins)).set (o:=1) (.int .u64 bal)).cell;go_wp2;exact bodyPost_ret (v:=.tuple #[.agg #[.int .i64 ins,.int .u64 bal],.string (bs d12),.bool true]) (by simp [results,Tryz.results121,go_sem,rr]) rfl ⟨rfl,zp (zp hb2w (by simp) _) (by simp) _⟩
end
section
open Go
structure zkV where
 kind:Nat
 src:Nat
 dst:Nat
 inst:Nat
 ballot:Nat
 more:List UInt8
variable {W:zl}{ns:List zu}{ss:List xW}{ld:List (Int×qD)}{ls:List zkV}{tr:List zb4}
end
section
open Go
theorem yC.castX {v:Int}{n:zu}(h:yC v n)(i:Int)(b:Nat)(x:List UInt8)(hb:b<18446744073709551616):yC v (JI n i b x).1:=by
 obtain⟨⟨⟨l,hi⟩,hc⟩,hk,hv⟩:=h;obtain⟨l',hs⟩:=za3 hi i b x hb;exact⟨⟨⟨l',hs.inv⟩,zdX hc _ _ _⟩,by rw [Qo];exact hk,hs.same.2.1.trans hv⟩
theorem yC.learnX {v:Int}{n:zu}(h:yC v n)(i:Int)(x:List UInt8):yC v (qz n i x).1:=by
 obtain⟨⟨⟨l,hi⟩,hc⟩,hk,hv⟩:=h;obtain⟨l',hs⟩:=Yo hi i x;exact⟨⟨⟨l',hs.inv⟩,VQ hc _ _⟩,Zn _ _ _ hk,hs.same.2.1.trans hv⟩
def qq(n:Nat)(dst:Int)(s:List UInt8):Prop:=∃(kind src:Nat)(data:List UInt8),kind<=7/\src<n/\data.length<=4096/\s=(ZK (qH kind src dst data)).1
structure zkj(n:Nat)(hurt:List (Nat×Unit))(x:zha):Prop where
 dst:0<=x.2.1/\x.2.1<n
 form:vI x.2.2=none/\x.2.2.length<=5000∨qq n x.2.1 x.2.2
 sum:zK x.1 hurt=none->qq n x.2.1 x.2.2
structure zbF(l:qD):Prop where
 inst:0<=l.inst/\l.inst<=30000
 ballot:l.ballot<18446744073709551616
 value:l.value.length<=5000
 pn:l.promised.length=16
 vn:l.voted.length=16
 pc:l.promises.length=l.promised.count true
 vc:l.votes=l.voted.count true
 ps:∀v∈l.promises,v.2.2.length<=5000
structure zr(v:Int)(k L:Nat)(S:zl):Prop where
 n0:1<=S.nodes.length/\S.nodes.length<=16
 nodes:∀(i:Nat) m,S.nodes[i]?=some m->yC v m
 seatsN:S.seats.length=S.nodes.length
 seats:∀(i:Nat) s,S.seats[i]?=some s->s.greatest<=1152921504606847008/\s.accepted<=116508/\s.delivered<=640000
 leadsN:(S.leads.map (·.1)).Nodup
 leads:∀(i:Nat) l,zK (i:Int) S.leads=some l->zbF l
 notesN:S.notes.length<=1000
 notes:∀x∈S.notes,zkj S.nodes.length S.hurt x
 ids:(S.notes.map (·.1)).Nodup
 least:∀x∈S.notes,x.1<=S.last
 last:S.last<=L
 trace:S.trace.length<=k+(S.seats.map λs=>s.accepted+s.delivered).sum
variable {v:Int}{k L:Nat}{S:zl}
theorem YZ(l:List Bool)(i:Nat)(h:l[i]?.getD false=false)(hi:i<l.length):(l.set i true).count true=l.count true+1:=by
 induction l generalizing i with
 |nil=>simp at hi
 |cons b l ih=>
  cases i with
  |zero=>
   simp at h
   simp [h]
  |succ i=>
   have:=ih i (by simpa using h) (by simpa using hi);simp only [List.set_cons_succ,List.count_cons,this];omega
theorem zr.node(h:zr v k L S){i:Nat}(hi:i<S.nodes.length):S.nodes[i]?=some (zt S i)/\yC v (zt S i):=by
 have h1:S.nodes[i]?=some (zt S i):=by
  unfold zt;rw [N3 hi];rfl
 exact⟨h1,h.nodes i _ h1⟩
theorem zr.seat(h:zr v k L S){i:Nat}(hi:i<S.nodes.length):S.seats[i]?=some (jC S i):=by
 unfold jC;rw [N3 (by rw [h.seatsN];exact hi)];rfl
theorem zr.mono(h:zr v k L S){k' L':Nat}(hk:k<=k')(hL:L<=L'):zr v k' L' S:=
 ⟨h.n0,h.nodes,h.seatsN,h.seats,h.leadsN,h.leads,h.notesN,h.notes,h.ids,h.least,Nat.le_trans h.last hL,Nat.le_trans h.trace (by omega)⟩
theorem zr.setNode(h:zr v k L S)(i:Nat){m:zu}(hm:yC v m):zr v k L (setNode S i m):=by
 have hl:(Go.Proofs.YtobnhnidffipjaaGreatDoor.setNode S i m).nodes.length=S.nodes.length:=by simp [Go.Proofs.YtobnhnidffipjaaGreatDoor.setNode]
 refine⟨by rw [hl];exact h.n0,λj m' hj=>?_,by rw [hl];exact h.seatsN,h.seats,h.leadsN,h.leads,h.notesN,by rw [hl];exact h.notes,h.ids,h.least,h.last,h.trace⟩;have hj':(S.nodes.set i m)[j]?=some m':=hj
 by_cases hij:i=j
 ·subst hij
  have hlt:=(N6.1 hj').1;rw [List.length_set] at hlt;rw [List.getElem?_set_self hlt] at hj'
  cases hj';exact hm
 ·rw [List.getElem?_set_ne hij] at hj'
  exact h.nodes j m' hj'
theorem zhn {l:List xW}{i:Nat}{s s':xW}(f:xW->Nat)(h:l[i]?=some s):((l.set i s').map f).sum+f s=(l.map f).sum+f s':=by
 induction l generalizing i with
 |nil=>simp at h
 |cons a l ih=>
  cases i with
  |zero=>simp at h;subst h;simp;omega
  |succ i=>
   have:=ih (i:=i) (by simpa using h);simp only [List.set_cons_succ,List.map_cons,List.sum_cons];omega
theorem zr.setSeat(h:zr v k L S){i:Nat}(hi:i<S.nodes.length)(s':xW)(h1:s'.greatest<=1152921504606847008/\s'.accepted=(jC S i).accepted/\s'.delivered=(jC S i).delivered):zr v k L (setSeat S i s'):=by
 have hs:=h.seat hi;have hb:=h.seats i _ hs;have hsum:=zhn (s':=s') (λs=>s.accepted+s.delivered) hs;refine⟨h.n0,h.nodes,by simpa [Go.Proofs.YtobnhnidffipjaaGreatDoor.setSeat] using h.seatsN,λj s hj=>?_,h.leadsN,h.leads,h.notesN,h.notes,h.ids,h.least,h.last,?_⟩
 ·have hj':(S.seats.set i s')[j]?=some s:=hj
  by_cases hij:i=j
  ·subst hij
   rw [List.getElem?_set_self (by rw [h.seatsN];exact hi)] at hj'
   cases hj'
   rw [h1.2.1,h1.2.2];exact⟨h1.1,hb.2⟩
  ·rw [List.getElem?_set_ne hij] at hj';exact h.seats j s hj'
 ·have ht:=h.trace
  show S.trace.length<=k+((S.seats.set i s').map λs=>s.accepted+s.delivered).sum
  rw [h1.2.1,h1.2.2] at hsum;omega
theorem zr.stale(h:zr v k L S){i:Nat}(hi:i<S.nodes.length):zr v k L (ZX S i):=h.setSeat hi _ ⟨(h.seats i _ (h.seat hi)).1,rfl,rfl⟩
theorem zho {K V:Type} [DecidableEq K] {i:K}{x:V}{q:K×V} :∀ {l:List (K×V)},q∈put i x l->q=(i,x)∨q∈l
 | [],h=>by unfold put at h;simpa using h
 |(a,b)::l,h=>by
  unfold put at h
  split at h
  ·rcases List.mem_cons.1 h with h|h
   ·exact .inl h
   ·exact .inr (U7 _ h)
  ·rcases List.mem_cons.1 h with h|h
   ·exact .inr (by rw [h];exact List.mem_cons_self ..)
   ·rcases zho h with h|h
    ·exact .inl h
    ·exact .inr (U7 _ h)
theorem Xg {K V:Type} [DecidableEq K](i:K)(x:V):∀ {l:List (K×V)},(l.map (·.1)).Nodup->((put i x l).map (·.1)).Nodup
 | [],_=>by simp [put]
 |(a,b)::l,h=>by
  simp only [List.map_cons,List.nodup_cons] at h;unfold put
  split
  ·rename_i e;subst e;simpa using h
  ·rename_i e
   simp only [List.map_cons,List.nodup_cons];refine⟨λhm=>?_,Xg i x h.2⟩;obtain⟨q,hq,he⟩:=List.mem_map.1 hm
   rcases zho hq with h1|h1
   ·subst h1;exact e he
   ·exact h.1 (List.mem_map.2 ⟨q,h1,he⟩)
theorem zea {K V:Type} [DecidableEq K](i:K):∀(l:List (K×V)),(del i l).Sublist l
 | []=>List.Sublist.refl _
 |(a,b)::l=>by
  unfold del
  split
  ·exact List.sublist_cons_self _ _
  ·exact(zea i l).cons_cons _
theorem zbG {K V:Type} [DecidableEq K](i:K){l:List (K×V)}(h:(l.map (·.1)).Nodup):((del i l).map (·.1)).Nodup:=h.sublist ((zea i l).map _)
theorem zbH {K V:Type} [DecidableEq K] {i:K} :∀ {l:List (K×V)},i∉l.map (·.1)->zK i l=none
 | [],_=>rfl
 |(a,b)::l,h=>by
  unfold zK;rw [if_neg (λe=>h (by simp [e]))];exact zbH (λe=>h (by simp only [List.map_cons,List.mem_cons];exact .inr e))
theorem J7 {K V:Type} [DecidableEq K](i j:K):∀ {l:List (K×V)},(l.map (·.1)).Nodup->zK i (del j l)=if i=j then none else zK i l
 | [],_=>by unfold del zK;split<;>rfl
 |(a,b)::l,h=>by
  simp only [List.map_cons,List.nodup_cons] at h;unfold del
  by_cases hj:j=a
  ·rw [if_pos hj];subst hj
   by_cases hi:i=j
   ·rw [if_pos hi];subst hi;exact zbH h.1
   ·rw [if_neg hi];conv=>rhs;unfold zK
    rw [if_neg hi]
  ·rw [if_neg hj]
   unfold zK;rw [J7 i j h.2]
   by_cases hi:i=a
   ·rw [if_pos hi,if_pos hi,if_neg (λe=>hj (e.symm.trans hi))]
   ·rw [if_neg hi,if_neg hi]
theorem zr.setLeads(h:zr v k L S){ld:List (Int×qD)}(hn:(ld.map (·.1)).Nodup)(hl:∀(i:Nat) l,zK (i:Int) ld=some l->zbF l):zr v k L {S with leads:=ld} :=
 ⟨h.n0,h.nodes,h.seatsN,h.seats,hn,hl,h.notesN,h.notes,h.ids,h.least,h.last,h.trace⟩
theorem zr.putLead(h:zr v k L S)(i:Nat){l:qD}(hl:zbF l):zr v k L {S with leads:=put (i:Int) l S.leads} :=
 h.setLeads (Xg _ _ h.leadsN) λj l' hj=>by
  rw [vN] at hj
  split at hj
  ·cases hj;exact hl
  ·exact h.leads j l' hj
theorem zr.delLead(h:zr v k L S)(i:Int):zr v k L {S with leads:=del i S.leads} :=
 h.setLeads (zbG _ h.leadsN) λj l' hj=>by
  rw [J7 _ _ h.leadsN] at hj
  split at hj
  ·cases hj
  ·exact h.leads j l' hj
end
open Go Go.RowKit Go.Shelf Go.Extern.Stop Go.Stop Go.Extern
attribute [local go_sem] Oper.semAt_some zw zm
theorem Xh(e:jB):(JK e).1.length<=4000:=by
 unfold JK vo;simp only
 repeat' split
 all_goals (simp at*;try omega)
theorem Y0(era:ZB):∀(l p:List zB)(r:List UInt8×Bool),r.1.length<=4000->(ye era p l r).1.length<=4000
 | [],p,r,h=>by unfold ye;exact h
 |m::l,p,r,h=>by
  unfold ye
  split
  ·exact Y0 era l _ _ (Xh _)
  ·exact h
