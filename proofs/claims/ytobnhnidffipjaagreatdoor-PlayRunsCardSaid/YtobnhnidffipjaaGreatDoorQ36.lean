/- PARTS OF THE PROOF. -/
import Derived.Test.YtobnhnidffipjaaGreatDoorQ30
import Derived.Test.YtobnhnidffipjaaGreatDoorQ34
import Derived.Test.YtobnhnidffipjaaGreatDoorQ35
set_option maxRecDepth 8000
set_option maxHeartbeats 4000000
open Go.Proofs.Tryz
namespace Go.Proofs.YtobnhnidffipjaaGreatDoor
section
open Go Go.RowKit Go.Shelf Go.Extern.Stop Go.Stop Go.Extern
attribute [local go_sem] Oper.semAt_some zw zn
theorem zeh(s:List UInt8)(h8:8<=s.length)(hs:s.length<=1000000)(w:World):Calls prog 163 #[.string (bs s)] w λe w'=>e=.returned (.int .u64 (je s 0+4294967296*je s 4:Nat))/\Below w.heap.size w w':=by
 have hsz:=zC s;have hx0:=yQ s 4;have hx1:=jR s 4 8;unfold je;rw [List.drop_zero];rw [show 8 - 4=4 from rfl] at hx1;have hl1:(s.take 4).length=4:=by rw [N7];omega
 have hl2:((s.drop 4).take 4).length=4:=by rw [N7,U3];omega
 have g1:=λW=>xO (s.take 4) (by omega) W
 have g2:=λW=>xO ((s.drop 4).take 4) (by omega) W
 rw [vJ hl1] at g1;rw [vJ hl2] at g2;have hb1:=vV (s.take 4);have hb2:=vV ((s.drop 4).take 4)
 generalize s.take 4=d1 at*
 generalize(s.drop 4).take 4=d2 at*
 generalize yq d1=n1 at*
 generalize yq d2=n2 at*
 have hor:=zcW n2 n1 hb2 hb1;have hor2:=zeb n2 n1 hb2 hb1;replace hor2:=G hor2;have hw1:IntKind.u64.wrap (n2:Int)=(n2:Int):=by rw [IntKind.wrap_u64];omega
 have hw2:IntKind.u64.wrap (n1:Int)=(n1:Int):=by rw [IntKind.wrap_u64];omega
 have y1:(8:Int)<=((bs s).size:Int):=by omega
 have y2:(4:Int)<=((bs s).size:Int):=by omega
 replace hsz:=G hsz;replace g1:=G g1;replace g2:=G g2;clear h8 hs
 go_enter func163,ntmps163
 go_wp2_with fail
 refine(g1.out _).mono ?_;rintro e w1⟨rfl,hc1⟩;go_wp2_with fail
 refine(g2.out _).mono ?_;rintro e w2⟨rfl,hc2⟩;go_wp2;go_ret
 exact⟨by rw [← hor2.out];rfl,zf hc1 hc2⟩
def zjX(d:List UInt8):Value:=if d.length<12 then .tuple #[.agg #[.int .i64 0,.int .u64 0],.string ⟨#[]⟩,.bool false]
 else .tuple #[xA (je d 0:Nat) (je d 4+4294967296*je d 8),.string (bs (d.drop 12)),.bool true]
theorem zhw(k s t:Int)(d:List UInt8)(hd:d.length<=4096)(w:World):Calls prog 121 #[Jl k s t d] w λe w'=>e=.returned (zjX d)/\Below w.heap.size w w':=by
 have hsz:=zC d;have kf:Blk ((w.alloc (.cells #[.int .i64 1,.int .i64 k,.int .i64 s,.int .i64 t,.int .u32 0,.int .u32 0,.int .u32 0,.int .u32 0,.string (bs d)] 157)).alloc (.cells #[.int .i64 0,.int .u64 0] 148)) w.heap.size #[.int .i64 1,.int .i64 k,.int .i64 s,.int .i64 t,.int .u32 0,.int .u32 0,.int .u32 0,.int .u32 0,.string (bs d)] 157:=(Blk.new rfl).alloc _;have km:Blk ((w.alloc (.cells #[.int .i64 1,.int .i64 k,.int .i64 s,.int .i64 t,.int .u32 0,.int .u32 0,.int .u32 0,.int .u32 0,.string (bs d)] 157)).alloc (.cells #[.int .i64 0,.int .u64 0] 148)) (w.heap.size+1) #[.int .i64 0,.int .u64 0] 148:=Blk.new (by simp);have hb0:Below w.heap.size w ((w.alloc (.cells #[.int .i64 1,.int .i64 k,.int .i64 s,.int .i64 t,.int .u32 0,.int .u32 0,.int .u32 0,.int .u32 0,.string (bs d)] 157)).alloc (.cells #[.int .i64 0,.int .u64 0] 148)):=pbx;unfold zjX Jl
 by_cases hl:d.length<12
 ·rw [if_pos hl]
  have t1:decide (((bs d).size:Int)<12)=true:=by rw [hsz];simp;omega
  replace hsz:=G hsz;clear hl kf hd;replace km:=G km;replace hb0:=G hb0
  go_enter func121,ntmps121
  go_wp2;exact bodyPost_ret (v:=.tuple #[.agg #[.int .i64 0,.int .u64 0],.string ⟨#[]⟩,.bool false]) (by simp [results,Tryz.results121,go_sem]) rfl ⟨rfl,hb0.out⟩
 ·rw [if_neg hl]
  have t1:decide (((bs d).size:Int)<12)=false:=by rw [hsz];simp;omega
  have hx0:=yQ d 4;have hx1:=jR d 4 12;have hx2:=z8 d 12;rw [show 12 - 4=8 from rfl] at hx1;have hl1:(d.take 4).length=4:=by rw [N7];omega
  have g1:=λW=>xO (d.take 4) (by omega) W
  rw [vJ hl1] at g1;have hl2:((d.drop 4).take 8).length=8:=by rw [N7,U3];omega
  have g2:=λW=>zeh ((d.drop 4).take 8) (by omega) (by omega) W
  have e1:je ((d.drop 4).take 8) 0=je d 4:=by unfold je;rw [List.drop_zero,List.take_take];rfl
  have e2:je ((d.drop 4).take 8) 4=je d 8:=by unfold je;rw [List.drop_take,List.take_take,List.drop_drop];rfl
  rw [e1,e2] at g2;have e0:yq (d.take 4)=je d 0:=rfl;rw [e0] at g1;have hq:=vV (d.take 4);rw [e0] at hq;have hw0:IntKind.i64.wrap ((je d 0:Nat):Int)=((je d 0:Nat):Int):=by rw [N8];omega
  have y1:(4:Int)<=((bs d).size:Int):=by omega
  have y2:(12:Int)<=((bs d).size:Int):=by omega
  have y3:((bs d).size:Int)<=4096:=by omega
  unfold xA
  generalize je d 4+4294967296*je d 8=bal at*
  generalize je d 0=ins at*
  generalize(d.drop 4).take 8=d8 at*
  generalize d.take 4=d4 at*
  generalize d.drop 12=d12 at*
  have c0:=kf.cell;replace hsz:=G hsz;replace g1:=G g1;replace g2:=G g2;clear hl hd hl1 hl2 hq e0 e1 e2
  go_enter func121,ntmps121
  go_wp2_with fail
  refine(g1.out _).mono ?_;rintro e w1⟨rfl,hb1⟩;have hb1w:=zf hb0 hb1;have k1:=kf.call hb1;have m1:=km.call hb1;clear c0;go_wp2_with fail
  refine zd [O 0,O 1,O 2,O 3,O 4,O 7,O 8,O 9,E 5,E 6,E 10,O 11,O 12] none (λw'=>Blk w' w.heap.size #[.int .i64 1,.int .i64 k,.int .i64 s,.int .i64 t,.int .u32 0,.int .u32 0,.int .u32 0,.int .u32 0,.string (bs d)] 157/\True) (by kernel_rfl) (by kernel_rfl) ⟨k1.drew,trivial⟩ ?_
  (repeat (refine za (v:=?_) rfl rfl (λw' h=>?_) (λK k=>?_);rotate_left;obtain⟨f1,_⟩:=h;have e1:=f1.cell;go_simp;(try with_reducible rfl);go_simp;refine k _ ?_;clear k K))
  refine zc rfl (λK hK=>?_);go_wp2_with fail
  refine(g2.out _).mono ?_;rintro e w2⟨rfl,hb2⟩;have hb2w:=zf (zo hb1w) hb2;have k2:=k1.drew.call hb2;have m2:=m1.drew.call hb2;have hne:w.heap.size≠w.heap.size+1:=by omega
  go_wp2;refine hK.out _ _ (λ_=>⟨k2,trivial⟩) ?_;clear hK K;have d0:w2.cell? ⟨w.heap.size+1,0,none⟩=some (.int .i64 0):=m2.cell 0;have d1:w2.cell? ⟨w.heap.size+1,1,none⟩=some (.int .u64 0):=m2.cell 1;have f2:=m2.frozen;have l2:=m2.lt
  (repeat (refine za (v:=?_) rfl rfl (λw' h=>?_) (λK k=>?_);rotate_left;obtain⟨f1,_⟩:=h;have e1:=f1.cell;go_simp;(try with_reducible rfl);go_simp;refine k _ ?_;clear k K))
  refine zc rfl (λK hK=>?_);go_wp2;refine hK.out _ _ (λ_=>⟨k2,trivial⟩) ?_;clear hK K
  (repeat (refine za (v:=?_) rfl rfl (λw' h=>?_) (λK k=>?_);rotate_left;obtain⟨f1,_⟩:=h;have e1:=f1.cell;go_simp;(try with_reducible rfl);go_simp;refine k _ ?_;clear k K))
  refine zc rfl (λK hK=>?_);go_wp2;refine hK.out _ _ (λ_=>⟨(k2.other (p:=⟨w.heap.size+1,0,none⟩) hne (.int .i64 ins)).other (p:=⟨w.heap.size+1,1,none⟩) hne (.int .u64 bal),trivial⟩) ?_;clear hK K
  (repeat (refine za (v:=?_) rfl rfl (λw' h=>?_) (λK k=>?_);rotate_left;obtain⟨f1,_⟩:=h;have e1:=f1.cell;go_simp;(try with_reducible rfl);go_simp;refine k _ ?_;clear k K))
  refine ze ?_;have rr:=((m2.set (o:=0) (.int .i64 ins)).set (o:=1) (.int .u64 bal)).cell;go_wp2;exact bodyPost_ret (v:=.tuple #[.agg #[.int .i64 ins,.int .u64 bal],.string (bs d12),.bool true]) (by simp [results,Tryz.results121,go_sem,rr]) rfl ⟨rfl,zm (zm hb2w (by simp) _) (by simp) _⟩
end
section
open Go
structure zle where
 kind:Nat
 src:Nat
 dst:Nat
 inst:Nat
 ballot:Nat
 more:List UInt8
variable {W:zj}{ns:List zv}{ss:List xU}{ld:List (Int×qv)}{ls:List zle}{tr:List zb8}
end
section
open Go
theorem yz.castX {v:Int}{n:zv}(h:yz v n)(i:Int)(b:Nat)(x:List UInt8)(hb:b<18446744073709551616):yz v (JE n i b x).1:=by
 obtain⟨⟨⟨l,hi⟩,hc⟩,hk,hv⟩:=h;obtain⟨l',hs⟩:=zbb hi i b x hb;exact⟨⟨⟨l',hs.inv⟩,zd5 hc _ _ _⟩,by rw [Qt];exact hk,hs.same.2.1.trans hv⟩
theorem yz.learnX {v:Int}{n:zv}(h:yz v n)(i:Int)(x:List UInt8):yz v (qr n i x).1:=by
 obtain⟨⟨⟨l,hi⟩,hc⟩,hk,hv⟩:=h;obtain⟨l',hs⟩:=Ym hi i x;exact⟨⟨⟨l',hs.inv⟩,VT hc _ _⟩,Zk _ _ _ hk,hs.same.2.1.trans hv⟩
def ql(n:Nat)(dst:Int)(s:List UInt8):Prop:=∃(kind src:Nat)(data:List UInt8),kind<=7/\src<n/\data.length<=4096/\s=(ZG (qx kind src dst data)).1
structure zky(n:Nat)(hurt:List (Nat×Unit))(x:zhk):Prop where
 dst:0<=x.2.1/\x.2.1<n
 form:vG x.2.2=none/\x.2.2.length<=5000∨ql n x.2.1 x.2.2
 sum:zJ x.1 hurt=none->ql n x.2.1 x.2.2
structure zbJ(l:qv):Prop where
 inst:0<=l.inst/\l.inst<=30000
 ballot:l.ballot<18446744073709551616
 value:l.value.length<=5000
 pn:l.promised.length=16
 vn:l.voted.length=16
 pc:l.promises.length=l.promised.count true
 vc:l.votes=l.voted.count true
 ps:∀v∈l.promises,v.2.2.length<=5000
structure zr(v:Int)(k L:Nat)(S:zj):Prop where
 n0:1<=S.nodes.length/\S.nodes.length<=16
 nodes:∀(i:Nat) m,S.nodes[i]?=some m->yz v m
 seatsN:S.seats.length=S.nodes.length
 seats:∀(i:Nat) s,S.seats[i]?=some s->s.greatest<=1152921504606847008/\s.accepted<=116508/\s.delivered<=640000
 leadsN:(S.leads.map (·.1)).Nodup
 leads:∀(i:Nat) l,zJ (i:Int) S.leads=some l->zbJ l
 notesN:S.notes.length<=1000
 notes:∀x∈S.notes,zky S.nodes.length S.hurt x
 ids:(S.notes.map (·.1)).Nodup
 least:∀x∈S.notes,x.1<=S.last
 last:S.last<=L
 trace:S.trace.length<=k+(S.seats.map λs=>s.accepted+s.delivered).sum
variable {v:Int}{k L:Nat}{S:zj}
theorem YW(l:List Bool)(i:Nat)(h:l[i]?.getD false=false)(hi:i<l.length):(l.set i true).count true=l.count true+1:=by
 induction l generalizing i with
 |nil=>simp at hi
 |cons b l ih=>
  cases i with
  |zero=>
   simp at h
   simp [h]
  |succ i=>
   have:=ih i (by simpa using h) (by simpa using hi);simp only [List.set_cons_succ,List.count_cons,this];omega
theorem zr.node(h:zr v k L S){i:Nat}(hi:i<S.nodes.length):S.nodes[i]?=some (zt S i)/\yz v (zt S i):=by
 have h1:S.nodes[i]?=some (zt S i):=by
  unfold zt;rw [N3 hi];rfl
 exact⟨h1,h.nodes i _ h1⟩
theorem zr.seat(h:zr v k L S){i:Nat}(hi:i<S.nodes.length):S.seats[i]?=some (jG S i):=by
 unfold jG;rw [N3 (by rw [h.seatsN];exact hi)];rfl
theorem zr.mono(h:zr v k L S){k' L':Nat}(hk:k<=k')(hL:L<=L'):zr v k' L' S:=
 ⟨h.n0,h.nodes,h.seatsN,h.seats,h.leadsN,h.leads,h.notesN,h.notes,h.ids,h.least,Nat.le_trans h.last hL,Nat.le_trans h.trace (by omega)⟩
theorem zr.setNode(h:zr v k L S)(i:Nat){m:zv}(hm:yz v m):zr v k L (setNode S i m):=by
 have hl:(Go.Proofs.YtobnhnidffipjaaGreatDoor.setNode S i m).nodes.length=S.nodes.length:=by simp [Go.Proofs.YtobnhnidffipjaaGreatDoor.setNode]
 refine⟨by rw [hl];exact h.n0,λj m' hj=>?_,by rw [hl];exact h.seatsN,h.seats,h.leadsN,h.leads,h.notesN,by rw [hl];exact h.notes,h.ids,h.least,h.last,h.trace⟩;have hj':(S.nodes.set i m)[j]?=some m':=hj
 by_cases hij:i=j
 ·subst hij
  have hlt:=(N6.1 hj').1;rw [List.length_set] at hlt;rw [List.getElem?_set_self hlt] at hj'
  cases hj';exact hm
 ·rw [List.getElem?_set_ne hij] at hj'
  exact h.nodes j m' hj'
theorem zhx {l:List xU}{i:Nat}{s s':xU}(f:xU->Nat)(h:l[i]?=some s):((l.set i s').map f).sum+f s=(l.map f).sum+f s':=by
 induction l generalizing i with
 |nil=>simp at h
 |cons a l ih=>
  cases i with
  |zero=>simp at h;subst h;simp;omega
  |succ i=>
   have:=ih (i:=i) (by simpa using h);simp only [List.set_cons_succ,List.map_cons,List.sum_cons];omega
theorem zr.setSeat(h:zr v k L S){i:Nat}(hi:i<S.nodes.length)(s':xU)(h1:s'.greatest<=1152921504606847008/\s'.accepted=(jG S i).accepted/\s'.delivered=(jG S i).delivered):zr v k L (setSeat S i s'):=by
 have hs:=h.seat hi;have hb:=h.seats i _ hs;have hsum:=zhx (s':=s') (λs=>s.accepted+s.delivered) hs;refine⟨h.n0,h.nodes,by simpa [Go.Proofs.YtobnhnidffipjaaGreatDoor.setSeat] using h.seatsN,λj s hj=>?_,h.leadsN,h.leads,h.notesN,h.notes,h.ids,h.least,h.last,?_⟩
 ·have hj':(S.seats.set i s')[j]?=some s:=hj
  by_cases hij:i=j
  ·subst hij
   rw [List.getElem?_set_self (by rw [h.seatsN];exact hi)] at hj'
   cases hj'
   rw [h1.2.1,h1.2.2];exact⟨h1.1,hb.2⟩
  ·rw [List.getElem?_set_ne hij] at hj';exact h.seats j s hj'
 ·have ht:=h.trace
  show S.trace.length<=k+((S.seats.set i s').map λs=>s.accepted+s.delivered).sum
  rw [h1.2.1,h1.2.2] at hsum;omega
theorem zr.stale(h:zr v k L S){i:Nat}(hi:i<S.nodes.length):zr v k L (ZV S i):=h.setSeat hi _ ⟨(h.seats i _ (h.seat hi)).1,rfl,rfl⟩
theorem zhy {K V:Type} [DecidableEq K] {i:K}{x:V}{q:K×V} :∀ {l:List (K×V)},q∈put i x l->q=(i,x)∨q∈l
 | [],h=>by unfold put at h;simpa using h
 |(a,b)::l,h=>by
  unfold put at h
  split at h
  ·rcases List.mem_cons.1 h with h|h
   ·exact .inl h
   ·exact .inr (U7 _ h)
  ·rcases List.mem_cons.1 h with h|h
   ·exact .inr (by rw [h];exact List.mem_cons_self ..)
   ·rcases zhy h with h|h
    ·exact .inl h
    ·exact .inr (U7 _ h)
theorem Xi {K V:Type} [DecidableEq K](i:K)(x:V):∀ {l:List (K×V)},(l.map (·.1)).Nodup->((put i x l).map (·.1)).Nodup
 | [],_=>by simp [put]
 |(a,b)::l,h=>by
  simp only [List.map_cons,List.nodup_cons] at h;unfold put
  split
  ·rename_i e;subst e;simpa using h
  ·rename_i e
   simp only [List.map_cons,List.nodup_cons];refine⟨λhm=>?_,Xi i x h.2⟩;obtain⟨q,hq,he⟩:=List.mem_map.1 hm
   rcases zhy hq with h1|h1
   ·subst h1;exact e he
   ·exact h.1 (List.mem_map.2 ⟨q,h1,he⟩)
theorem zei {K V:Type} [DecidableEq K](i:K):∀(l:List (K×V)),(del i l).Sublist l
 | []=>List.Sublist.refl _
 |(a,b)::l=>by
  unfold del
  split
  ·exact List.sublist_cons_self _ _
  ·exact(zei i l).cons_cons _
theorem zbK {K V:Type} [DecidableEq K](i:K){l:List (K×V)}(h:(l.map (·.1)).Nodup):((del i l).map (·.1)).Nodup:=h.sublist ((zei i l).map _)
theorem zbL {K V:Type} [DecidableEq K] {i:K} :∀ {l:List (K×V)},i∉l.map (·.1)->zJ i l=none
 | [],_=>rfl
 |(a,b)::l,h=>by
  unfold zJ;rw [if_neg (λe=>h (by simp [e]))];exact zbL (λe=>h (by simp only [List.map_cons,List.mem_cons];exact .inr e))
theorem J4 {K V:Type} [DecidableEq K](i j:K):∀ {l:List (K×V)},(l.map (·.1)).Nodup->zJ i (del j l)=if i=j then none else zJ i l
 | [],_=>by unfold del zJ;split<;>rfl
 |(a,b)::l,h=>by
  simp only [List.map_cons,List.nodup_cons] at h;unfold del
  by_cases hj:j=a
  ·rw [if_pos hj];subst hj
   by_cases hi:i=j
   ·rw [if_pos hi];subst hi;exact zbL h.1
   ·rw [if_neg hi];conv=>rhs;unfold zJ
    rw [if_neg hi]
  ·rw [if_neg hj]
   unfold zJ;rw [J4 i j h.2]
   by_cases hi:i=a
   ·rw [if_pos hi,if_pos hi,if_neg (λe=>hj (e.symm.trans hi))]
   ·rw [if_neg hi,if_neg hi]
theorem zr.setLeads(h:zr v k L S){ld:List (Int×qv)}(hn:(ld.map (·.1)).Nodup)(hl:∀(i:Nat) l,zJ (i:Int) ld=some l->zbJ l):zr v k L {S with leads:=ld} :=
 ⟨h.n0,h.nodes,h.seatsN,h.seats,hn,hl,h.notesN,h.notes,h.ids,h.least,h.last,h.trace⟩
theorem zr.putLead(h:zr v k L S)(i:Nat){l:qv}(hl:zbJ l):zr v k L {S with leads:=put (i:Int) l S.leads} :=
 h.setLeads (Xi _ _ h.leadsN) λj l' hj=>by
  rw [vL] at hj
  split at hj
  ·cases hj;exact hl
  ·exact h.leads j l' hj
theorem zr.delLead(h:zr v k L S)(i:Int):zr v k L {S with leads:=del i S.leads} :=
 h.setLeads (zbK _ h.leadsN) λj l' hj=>by
  rw [J4 _ _ h.leadsN] at hj
  split at hj
  ·cases hj
  ·exact h.leads j l' hj
end
open Go Go.RowKit Go.Shelf Go.Extern.Stop Go.Stop Go.Extern
attribute [local go_sem] Oper.semAt_some zw zn
theorem Xj(e:jF):(JG e).1.length<=4000:=by
 unfold JG vo;simp only
 repeat' split
 all_goals (simp at*;try omega)
theorem YX(era:Zx):∀(l p:List zD)(r:List UInt8×Bool),r.1.length<=4000->(yf era p l r).1.length<=4000
 | [],p,r,h=>by unfold yf;exact h
 |m::l,p,r,h=>by
  unfold yf
  split
  ·exact YX era l _ _ (Xj _)
  ·exact h
