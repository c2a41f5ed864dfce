/- PARTS OF THE PROOF. -/
import Derived.Test.YtofppfoioodblaaGreatDoorTT30
import Derived.Test.YtofppfoioodblaaGreatDoorTT33
import Derived.Test.YtofppfoioodblaaGreatDoorTT34
set_option maxRecDepth 8000
set_option maxHeartbeats 4000000
open Go.Proofs.Tryz
namespace Go.Proofs.YtofppfoioodblaaGreatDoor
section
open Go Go.RowKit Go.Shelf Go.Extern.Stop Go.Stop Go.Extern
attribute [local go_sem] Oper.semAt_some zv zm
theorem zeg(s:List UInt8)(h8:8<=s.length)(hs:s.length<=1000000)(w:World):Calls prog 199 #[.string (bs s)] w λe w'=>e=.returned (.int .u64 (zW s 0+4294967296*zW s 4:Nat))/\Below w.heap.size w w':=by
 have hsz:=zJ s;have hx0:=vA s 4;have hx1:=yo s 4 8;unfold zW;rw [List.drop_zero];rw [show 8 - 4=4 from rfl] at hx1;have hl1:(s.take 4).length=4:=by rw [N7];omega
 have hl2:((s.drop 4).take 4).length=4:=by rw [N7,U3];omega
 have g1:=λW=>xQ (s.take 4) (by omega) W
 have g2:=λW=>xQ ((s.drop 4).take 4) (by omega) W
 rw [vK hl1] at g1;rw [vK hl2] at g2;have hb1:=vW (s.take 4);have hb2:=vW ((s.drop 4).take 4)
 generalize s.take 4=d1 at*
 generalize(s.drop 4).take 4=d2 at*
 generalize yn d1=n1 at*
 generalize yn d2=n2 at*
 have hor:=zc2 n2 n1 hb2 hb1;have hor2:=zea n2 n1 hb2 hb1;replace hor2:=hid hor2;have hw1:IntKind.u64.wrap (n2:Int)=(n2:Int):=by rw [IntKind.wrap_u64];omega
 have hw2:IntKind.u64.wrap (n1:Int)=(n1:Int):=by rw [IntKind.wrap_u64];omega
 have y1:(8:Int)<=((bs s).size:Int):=by omega
 have y2:(4:Int)<=((bs s).size:Int):=by omega
 replace hsz:=hid hsz;replace g1:=hid g1;replace g2:=hid g2;clear h8 hs
 go_enter func199,ntmps199
 go_wp2_with fail
 refine(g1.out _).mono ?_;rintro e w1⟨rfl,hc1⟩;go_wp2_with fail
 refine(g2.out _).mono ?_;rintro e w2⟨rfl,hc2⟩;go_wp2;go_ret
 exact⟨by rw [← hor2.out];rfl,zg hc1 hc2⟩
def zkl(d:List UInt8):Value:=if d.length<12 then .tuple #[.agg #[.int .i64 0,.int .u64 0],.string ⟨#[]⟩,.bool false]
 else .tuple #[xE (zW d 0:Nat) (zW d 4+4294967296*zW d 8),.string (bs (d.drop 12)),.bool true]
theorem zhC(k s t:Int)(d:List UInt8)(hd:d.length<=4096)(w:World):Calls prog 150 #[Jj k s t d] w λe w'=>e=.returned (zkl d)/\Below w.heap.size w w':=by
 have hsz:=zJ d;have kf:Blk ((w.alloc (.cells #[.int .i64 1,.int .i64 k,.int .i64 s,.int .i64 t,.int .u32 0,.int .u32 0,.int .u32 0,.int .u32 0,.string (bs d)] 182)).alloc (.cells #[.int .i64 0,.int .u64 0] 171)) w.heap.size #[.int .i64 1,.int .i64 k,.int .i64 s,.int .i64 t,.int .u32 0,.int .u32 0,.int .u32 0,.int .u32 0,.string (bs d)] 182:=(Blk.new rfl).alloc _;have km:Blk ((w.alloc (.cells #[.int .i64 1,.int .i64 k,.int .i64 s,.int .i64 t,.int .u32 0,.int .u32 0,.int .u32 0,.int .u32 0,.string (bs d)] 182)).alloc (.cells #[.int .i64 0,.int .u64 0] 171)) (w.heap.size+1) #[.int .i64 0,.int .u64 0] 171:=Blk.new (by simp);have hb0:Below w.heap.size w ((w.alloc (.cells #[.int .i64 1,.int .i64 k,.int .i64 s,.int .i64 t,.int .u32 0,.int .u32 0,.int .u32 0,.int .u32 0,.string (bs d)] 182)).alloc (.cells #[.int .i64 0,.int .u64 0] 171)):=pbx;unfold zkl Jj
 by_cases hl:d.length<12
 ·rw [if_pos hl]
  have t1:decide (((bs d).size:Int)<12)=true:=by rw [hsz];simp;omega
  replace hsz:=hid hsz;clear hl kf hd;replace km:=hid km;replace hb0:=hid hb0
  go_enter func150,ntmps150
  go_wp2;exact bodyPost_ret (v:=.tuple #[.agg #[.int .i64 0,.int .u64 0],.string ⟨#[]⟩,.bool false]) (by simp [results,Tryz.results150,go_sem]) rfl ⟨rfl,hb0.out⟩
 ·rw [if_neg hl]
  have t1:decide (((bs d).size:Int)<12)=false:=by rw [hsz];simp;omega
  have hx0:=vA d 4;have hx1:=yo d 4 12;have hx2:=jk d 12;rw [show 12 - 4=8 from rfl] at hx1;have hl1:(d.take 4).length=4:=by rw [N7];omega
  have g1:=λW=>xQ (d.take 4) (by omega) W
  rw [vK hl1] at g1;have hl2:((d.drop 4).take 8).length=8:=by rw [N7,U3];omega
  have g2:=λW=>zeg ((d.drop 4).take 8) (by omega) (by omega) W
  have e1:zW ((d.drop 4).take 8) 0=zW d 4:=by unfold zW;rw [List.drop_zero,List.take_take];rfl
  have e2:zW ((d.drop 4).take 8) 4=zW d 8:=by unfold zW;rw [List.drop_take,List.take_take,List.drop_drop];rfl
  rw [e1,e2] at g2;have e0:yn (d.take 4)=zW d 0:=rfl;rw [e0] at g1;have hq:=vW (d.take 4);rw [e0] at hq;have hw0:IntKind.i64.wrap ((zW d 0:Nat):Int)=((zW d 0:Nat):Int):=by rw [N8];omega
  have y1:(4:Int)<=((bs d).size:Int):=by omega
  have y2:(12:Int)<=((bs d).size:Int):=by omega
  have y3:((bs d).size:Int)<=4096:=by omega
  unfold xE
  generalize zW d 4+4294967296*zW d 8=bal at*
  generalize zW d 0=ins at*
  generalize(d.drop 4).take 8=d8 at*
  generalize d.take 4=d4 at*
  generalize d.drop 12=d12 at*
  have c0:=kf.cell;replace hsz:=hid hsz;replace g1:=hid g1;replace g2:=hid g2;clear hl hd hl1 hl2 hq e0 e1 e2
  go_enter func150,ntmps150
  go_wp2_with fail
  refine(g1.out _).mono ?_;rintro e w1⟨rfl,hb1⟩;have hb1w:=zg hb0 hb1;have k1:=kf.call hb1;have m1:=km.call hb1;clear c0;go_wp2_with fail
  refine zd [O 0,O 1,O 2,O 3,O 4,O 7,O 8,O 9,E 5,E 6,E 10,O 11,O 12] none (λw'=>Blk w' w.heap.size #[.int .i64 1,.int .i64 k,.int .i64 s,.int .i64 t,.int .u32 0,.int .u32 0,.int .u32 0,.int .u32 0,.string (bs d)] 182/\True) (by kernel_rfl) (by kernel_rfl) ⟨k1.drew,trivial⟩ ?_
  (repeat (refine za (v:=?_) rfl rfl (λw' h=>?_) (λK k=>?_);rotate_left;obtain⟨f1,_⟩:=h;have e1:=f1.cell;go_simp;(try with_reducible rfl);go_simp;refine k _ ?_;clear k K))
  refine zc rfl (λK hK=>?_);go_wp2_with fail
  refine(g2.out _).mono ?_;rintro e w2⟨rfl,hb2⟩;have hb2w:=zg (zo hb1w) hb2;have k2:=k1.drew.call hb2;have m2:=m1.drew.call hb2;have hne:w.heap.size≠w.heap.size+1:=by omega
  go_wp2;refine hK.out _ _ (λ_=>⟨k2,trivial⟩) ?_;clear hK K;have d0:w2.cell? ⟨w.heap.size+1,0,none⟩=some (.int .i64 0):=m2.cell 0;have d1:w2.cell? ⟨w.heap.size+1,1,none⟩=some (.int .u64 0):=m2.cell 1;have f2:=m2.frozen;have l2:=m2.lt
  (repeat (refine za (v:=?_) rfl rfl (λw' h=>?_) (λK k=>?_);rotate_left;obtain⟨f1,_⟩:=h;have e1:=f1.cell;go_simp;(try with_reducible rfl);go_simp;refine k _ ?_;clear k K))
  refine zc rfl (λK hK=>?_);go_wp2;refine hK.out _ _ (λ_=>⟨k2,trivial⟩) ?_;clear hK K
  (repeat (refine za (v:=?_) rfl rfl (λw' h=>?_) (λK k=>?_);rotate_left;obtain⟨f1,_⟩:=h;have e1:=f1.cell;go_simp;(try with_reducible rfl);go_simp;refine k _ ?_;clear k K))
  refine zc rfl (λK hK=>?_);go_wp2;refine hK.out _ _ (λ_=>⟨(k2.other (p:=⟨w.heap.size+1,0,none⟩) hne (.int .i64 ins)).other (p:=⟨w.heap.size+1,1,none⟩) hne (.int .u64 bal),trivial⟩) ?_;clear hK K
  (repeat (refine za (v:=?_) rfl rfl (λw' h=>?_) (λK k=>?_);rotate_left;obtain⟨f1,_⟩:=h;have e1:=f1.cell;go_simp;(try with_reducible rfl);go_simp;refine k _ ?_;clear k K))
  refine ze ?_;have rr:=((m2.set (o:=0) (.int .i64 ins)).set (o:=1) (.int .u64 bal)).cell;go_wp2;exact bodyPost_ret (v:=.tuple #[.agg #[.int .i64 ins,.int .u64 bal],.string (bs d12),.bool true]) (by simp [results,Tryz.results150,go_sem,rr]) rfl ⟨rfl,zn (zn hb2w (by simp) _) (by simp) _⟩
end
section
open Go
theorem Qt(kind src dst inst:Int)(ballot:Nat)(more:List UInt8):ji kind src dst inst ballot more=qu kind src dst (le4 (inst % 4294967296).toNat++le8 ballot++more):=rfl
theorem Xe(inst:Int)(ballot:Nat)(more:List UInt8)(hi:0<=inst)(hi2:inst<4294967296)(hb:ballot<18446744073709551616):
 (zW (le4 (inst % 4294967296).toNat++le8 ballot++more) 0:Int)=inst/\zW (le4 (inst % 4294967296).toNat++le8 ballot++more) 4+4294967296*zW (le4 (inst % 4294967296).toNat++le8 ballot++more) 8=ballot/\
  (le4 (inst % 4294967296).toNat++le8 ballot++more).drop 12=more/\(le4 (inst % 4294967296).toNat++le8 ballot++more).length=12+more.length:=by
 refine⟨?_,?_,rfl,?_⟩
 ·show((yn (le4 (inst % 4294967296).toNat):Nat):Int)=inst
  rw [yW];omega
 ·show yn (le4 ballot)+4294967296*yn (le4 (ballot / 4294967296))=ballot
  rw [yW,yW];omega
 ·rw [N1,N1];rfl
def jt(w:zf)(i:Nat)(kind src inst:Int)(ballot:Nat)(more:List UInt8):zf:=
 if kind=3∨kind=5 then yO w i (ji kind src i inst ballot more) inst ballot more
 else if kind=4 then countPromise w i src.toNat inst ballot more
 else if kind=6 then countVote w i src.toNat inst ballot
 else if kind=7 then setNode (xm w i) i (ja (zr w i) inst more).1
 else w
theorem zdi {w:zf}{id dst:Nat}{kind src inst:Int}{ballot:Nat}{more:List UInt8}{rest:List zfy}(hn:w.notes=(id,(dst:Int),(qr (ji kind src dst inst ballot more)).1)::rest)
 (hk:0<=kind) (hk2:kind<=31) (hs:0<=src) (hs2:src<16) (hd2:dst<16) (hi:0<=inst) (hi2:inst<4294967296) (hb:ballot<18446744073709551616) (hm:more.length<=4084) (hup:(zr w dst).down=false):
 xw w 0=(jt {w with notes:=rest,hurt:=del id w.hurt} dst kind src inst ballot more,0):=by
 obtain⟨d1,d2,d3,d4⟩:=Xe inst ballot more hi hi2 hb;obtain⟨e1,e2⟩:=zdf (kind:=kind) (src:=src) (dst:=(dst:Int)) (data:=le4 (inst % 4294967296).toNat++le8 ballot++more) hk hk2 hs hs2 (by omega) (by omega) (by omega);rw [← Qt] at e1 e2;unfold xw;rw [if_neg (by omega),hn]
 show(if(zfx (qr (ji kind src dst inst ballot more)).1).2=0/\(zr {w with notes:=((id,(dst:Int),(qr (ji kind src dst inst ballot more)).1)::rest).eraseIdx (0:Int).toNat,hurt:=del id w.hurt} ((dst:Int)).toNat).down=false then _ else _)=_
 have hup':(zr {w with notes:=((id,(dst:Int),(qr (ji kind src dst inst ballot more)).1)::rest).eraseIdx (0:Int).toNat,hurt:=del id w.hurt} ((dst:Int)).toNat).down=false:=hup;rw [e2,if_pos ⟨rfl,hup'⟩]
 congr 1
 show yA {w with notes:=rest,hurt:=del id w.hurt} dst (ji kind src dst inst ballot more)=_
 unfold yA;have hdata:(ji kind src dst inst ballot more).data=le4 (inst % 4294967296).toNat++le8 ballot++more:=rfl;rw [hdata,if_neg (by omega)];simp only;rw [d1,d2,d3];rfl
structure vr where
 kind:Nat
 src:Nat
 dst:Nat
 inst:Nat
 ballot:Nat
 more:List UInt8
def vr.ok(n:Nat)(l:vr):Prop:=l.kind<=7/\l.src<n/\l.dst<n/\l.inst<4294967296/\l.ballot<18446744073709551616/\l.more.length<=4084
def vr.note(l:vr):Int×List UInt8:=((l.dst:Int),(qr (ji l.kind l.src l.dst l.inst l.ballot l.more)).1)
structure IsW(W:zf)(ns:List zp)(ss:List jW)(ld:List (Int×j8))(ls:List vr)(tr:List JP):Prop where
 nodes:W.nodes=ns
 seats:W.seats=ss
 leads:W.leads=ld
 notes:W.notes.map (·.2)=ls.map vr.note
 hurt:W.hurt=[]
 trace:W.trace=tr
variable {W:zf}{ns:List zp}{ss:List jW}{ld:List (Int×j8)}{ls:List vr}{tr:List JP}
theorem IsW.len(h:IsW W ns ss ld ls tr):W.notes.length=ls.length:=by
 have:=congrArg List.length h.notes
 simpa using this
theorem IsW.send(h:IsW W ns ss ld ls tr)(l:vr)(hl:l.ok 16)(hf:ls.length<1000):IsW (yY W (ji l.kind l.src l.dst l.inst l.ballot l.more)) ns ss ld (ls++ [l]) tr:=by
 obtain⟨h1,h2,h3,h4,h5,h6⟩:=hl;have hd:=zdf (kind:=(l.kind:Int)) (src:=(l.src:Int)) (dst:=(l.dst:Int)) (data:=le4 ((l.inst:Int)% 4294967296).toNat++le8 l.ballot++l.more) (by omega) (by omega) (by omega) (by omega) (by omega) (by omega) (by rw [(Xe (l.inst:Int) l.ballot l.more (by omega) (by omega) h5).2.2.2];omega);rw [← Qt] at hd;unfold yY;rw [if_pos hd.1];unfold yq;rw [if_neg (by rw [h.len];omega)];refine⟨h.nodes,h.seats,h.leads,?_,h.hurt,h.trace⟩
 show(W.notes++ [((W.last+1)% 4294967296,(ji l.kind l.src l.dst l.inst l.ballot l.more).dst,(qr (ji l.kind l.src l.dst l.inst l.ballot l.more)).1)]).map (·.2)=_
 rw [List.map_append,h.notes,List.map_append];rfl
theorem IsW.sends(h:IsW W ns ss ld ls tr)(kind src inst ballot:Nat)(more:List UInt8):∀(js:List Nat),(∀j∈js,vr.ok 16 ⟨kind,src,j,inst,ballot,more⟩)->ls.length+js.length<=1000->
 IsW (js.foldl (λw (i:Nat)=>yY w (ji kind src i inst ballot more)) W) ns ss ld (ls++js.map (λj=>⟨kind,src,j,inst,ballot,more⟩)) tr:=by
 intro js
 induction js generalizing W ls with
 |nil=>intro _ _;simpa using h
 |cons j js ih=>
  intro hj hl;have h1:=h.send ⟨kind,src,j,inst,ballot,more⟩ (hj j (List.mem_cons_self ..)) (by simp at hl;omega);have h2:=ih h1 (λk hk=>hj k (U7 _ hk)) (by simp at hl⊢;omega)
  simpa [List.append_assoc] using h2
theorem IsW.sendAll(h:IsW W ns ss ld ls tr)(kind src inst ballot:Nat)(more:List UInt8)(hok:∀j,j<ns.length->vr.ok 16 ⟨kind,src,j,inst,ballot,more⟩)(hl:ls.length+ns.length<=1000):
 IsW (j0 W kind src inst ballot more) ns ss ld (ls++(List.range ns.length).map (λj=>⟨kind,src,j,inst,ballot,more⟩)) tr:=by
 unfold j0;rw [h.nodes];exact h.sends kind src inst ballot more (List.range ns.length) (λj hj=>hok j (List.mem_range.1 hj)) (by simpa using hl)
theorem IsW.node(h:IsW W ns ss ld ls tr)(i:Nat):zr W i=ns[i]?.getD (zgd 0 0 0 [] (0,0,[])):=by unfold zr;rw [h.nodes]
theorem IsW.seat(h:IsW W ns ss ld ls tr)(i:Nat):jg W i=ss[i]?.getD yV:=by unfold jg;rw [h.seats]
theorem IsW.take {l:vr}(h:IsW W ns ss ld (l::ls) tr)(hl:l.ok 16){m:zp}(hm:ns[l.dst]?=some m)(hup:m.down=false):
 ∃V,IsW V ns ss ld ls tr/\(xw W 0).1=jt V l.dst l.kind l.src l.inst l.ballot l.more:=by
 obtain⟨h1,h2,h3,h4,h5,h6⟩:=hl
 cases hn:W.notes with
 |nil=>have:=h.len;rw [hn] at this;simp at this
 |cons x rest=>
  obtain⟨id,dst,s⟩:=x;have hx:=h.notes;rw [hn] at hx;simp only [List.map_cons,List.cons.injEq] at hx;obtain⟨hx1,hx2⟩:=hx;have hx1':dst=(l.dst:Int)/\s=(qr (ji l.kind l.src l.dst l.inst l.ballot l.more)).1:=by simpa [vr.note] using hx1
  obtain⟨rfl,rfl⟩:=hx1';have ht:=zdi (w:=W) (id:=id) (dst:=l.dst) (kind:=(l.kind:Int)) (src:=(l.src:Int)) (inst:=(l.inst:Int)) (ballot:=l.ballot) (more:=l.more) (rest:=rest) hn (by omega) (by omega) (by omega) (by omega) h3 (by omega) (by omega) h5 h6 (by rw [h.node,hm];exact hup);refine⟨{W with notes:=rest,hurt:=del id W.hurt},⟨h.nodes,h.seats,h.leads,hx2,?_,h.trace⟩,by rw [ht]⟩
  show del id W.hurt=[]
  rw [h.hurt];rfl
end
section
open Go
theorem vj.castX {v:Int}{n:zp}(h:vj v n)(i:Int)(b:Nat)(x:List UInt8)(hb:b<18446744073709551616):vj v (yE n i b x).1:=by
 obtain⟨⟨⟨l,hi⟩,hc⟩,hk,hv⟩:=h;obtain⟨l',hs⟩:=zbf hi i b x hb;exact⟨⟨⟨l',hs.inv⟩,zd4 hc _ _ _⟩,by rw [Qp];exact hk,hs.same.2.1.trans hv⟩
theorem vj.learnX {v:Int}{n:zp}(h:vj v n)(i:Int)(x:List UInt8):vj v (ja n i x).1:=by
 obtain⟨⟨⟨l,hi⟩,hc⟩,hk,hv⟩:=h;obtain⟨l',hs⟩:=Yo hi i x;exact⟨⟨⟨l',hs.inv⟩,VR hc _ _⟩,Zh _ _ _ hk,hs.same.2.1.trans hv⟩
def qg(n:Nat)(dst:Int)(s:List UInt8):Prop:=∃(kind src:Nat)(data:List UInt8),kind<=7/\src<n/\data.length<=4096/\s=(qr (qu kind src dst data)).1
structure zkV(n:Nat)(hurt:List (Nat×Unit))(x:zfy):Prop where
 dst:0<=x.2.1/\x.2.1<n
 form:xA x.2.2=none/\x.2.2.length<=5000∨qg n x.2.1 x.2.2
 sum:zD x.1 hurt=none->qg n x.2.1 x.2.2
structure zbK(l:j8):Prop where
 inst:0<=l.inst/\l.inst<=30000
 ballot:l.ballot<18446744073709551616
 value:l.value.length<=5000
 pn:l.promised.length=16
 vn:l.voted.length=16
 pc:l.promises.length=l.promised.count true
 vc:l.votes=l.voted.count true
 ps:∀v∈l.promises,v.2.2.length<=5000
structure zu(v:Int)(k L:Nat)(S:zf):Prop where
 n0:1<=S.nodes.length/\S.nodes.length<=16
 nodes:∀(i:Nat) m,S.nodes[i]?=some m->vj v m
 seatsN:S.seats.length=S.nodes.length
 seats:∀(i:Nat) s,S.seats[i]?=some s->s.greatest<=1152921504606847008/\s.accepted<=116508/\s.delivered<=640000
 leadsN:(S.leads.map (·.1)).Nodup
 leads:∀(i:Nat) l,zD (i:Int) S.leads=some l->zbK l
 notesN:S.notes.length<=1000
 notes:∀x∈S.notes,zkV S.nodes.length S.hurt x
 ids:(S.notes.map (·.1)).Nodup
 least:∀x∈S.notes,x.1<=S.last
 last:S.last<=L
 trace:S.trace.length<=k+(S.seats.map λs=>s.accepted+s.delivered).sum
variable {v:Int}{k L:Nat}{S:zf}
theorem YW(l:List Bool)(i:Nat)(h:l[i]?.getD false=false)(hi:i<l.length):(l.set i true).count true=l.count true+1:=by
 induction l generalizing i with
 |nil=>simp at hi
 |cons b l ih=>
  cases i with
  |zero=>
   simp at h
   simp [h]
  |succ i=>
   have:=ih i (by simpa using h) (by simpa using hi);simp only [List.set_cons_succ,List.count_cons,this];omega
theorem zu.node(h:zu v k L S){i:Nat}(hi:i<S.nodes.length):S.nodes[i]?=some (zr S i)/\vj v (zr S i):=by
 have h1:S.nodes[i]?=some (zr S i):=by
  unfold zr;rw [N3 hi];rfl
 exact⟨h1,h.nodes i _ h1⟩
theorem zu.seat(h:zu v k L S){i:Nat}(hi:i<S.nodes.length):S.seats[i]?=some (jg S i):=by
 unfold jg;rw [N3 (by rw [h.seatsN];exact hi)];rfl
theorem zu.mono(h:zu v k L S){k' L':Nat}(hk:k<=k')(hL:L<=L'):zu v k' L' S:=
 ⟨h.n0,h.nodes,h.seatsN,h.seats,h.leadsN,h.leads,h.notesN,h.notes,h.ids,h.least,Nat.le_trans h.last hL,Nat.le_trans h.trace (by omega)⟩
theorem zu.setNode(h:zu v k L S)(i:Nat){m:zp}(hm:vj v m):zu v k L (setNode S i m):=by
 have hl:(Go.Proofs.YtofppfoioodblaaGreatDoor.setNode S i m).nodes.length=S.nodes.length:=by simp [Go.Proofs.YtofppfoioodblaaGreatDoor.setNode]
 refine⟨by rw [hl];exact h.n0,λj m' hj=>?_,by rw [hl];exact h.seatsN,h.seats,h.leadsN,h.leads,h.notesN,by rw [hl];exact h.notes,h.ids,h.least,h.last,h.trace⟩;have hj':(S.nodes.set i m)[j]?=some m':=hj
 by_cases hij:i=j
 ·subst hij
  have hlt:=(N6.1 hj').1;rw [List.length_set] at hlt;rw [List.getElem?_set_self hlt] at hj'
  cases hj';exact hm
 ·rw [List.getElem?_set_ne hij] at hj'
  exact h.nodes j m' hj'
theorem zhD {l:List jW}{i:Nat}{s s':jW}(f:jW->Nat)(h:l[i]?=some s):((l.set i s').map f).sum+f s=(l.map f).sum+f s':=by
 induction l generalizing i with
 |nil=>simp at h
 |cons a l ih=>
  cases i with
  |zero=>simp at h;subst h;simp;omega
  |succ i=>
   have:=ih (i:=i) (by simpa using h);simp only [List.set_cons_succ,List.map_cons,List.sum_cons];omega
theorem zu.setSeat(h:zu v k L S){i:Nat}(hi:i<S.nodes.length)(s':jW)(h1:s'.greatest<=1152921504606847008/\s'.accepted=(jg S i).accepted/\s'.delivered=(jg S i).delivered):zu v k L (setSeat S i s'):=by
 have hs:=h.seat hi;have hb:=h.seats i _ hs;have hsum:=zhD (s':=s') (λs=>s.accepted+s.delivered) hs;refine⟨h.n0,h.nodes,by simpa [Go.Proofs.YtofppfoioodblaaGreatDoor.setSeat] using h.seatsN,λj s hj=>?_,h.leadsN,h.leads,h.notesN,h.notes,h.ids,h.least,h.last,?_⟩
 ·have hj':(S.seats.set i s')[j]?=some s:=hj
  by_cases hij:i=j
  ·subst hij
   rw [List.getElem?_set_self (by rw [h.seatsN];exact hi)] at hj'
   cases hj'
   rw [h1.2.1,h1.2.2];exact⟨h1.1,hb.2⟩
  ·rw [List.getElem?_set_ne hij] at hj';exact h.seats j s hj'
 ·have ht:=h.trace
  show S.trace.length<=k+((S.seats.set i s').map λs=>s.accepted+s.delivered).sum
  rw [h1.2.1,h1.2.2] at hsum;omega
theorem zu.stale(h:zu v k L S){i:Nat}(hi:i<S.nodes.length):zu v k L (xm S i):=h.setSeat hi _ ⟨(h.seats i _ (h.seat hi)).1,rfl,rfl⟩
theorem zhE {K V:Type} [DecidableEq K] {i:K}{x:V}{q:K×V} :∀ {l:List (K×V)},q∈put i x l->q=(i,x)∨q∈l
 | [],h=>by unfold put at h;simpa using h
 |(a,b)::l,h=>by
  unfold put at h
  split at h
  ·rcases List.mem_cons.1 h with h|h
   ·exact .inl h
   ·exact .inr (U7 _ h)
  ·rcases List.mem_cons.1 h with h|h
   ·exact .inr (by rw [h];exact List.mem_cons_self ..)
   ·rcases zhE h with h|h
    ·exact .inl h
    ·exact .inr (U7 _ h)
theorem Xf {K V:Type} [DecidableEq K](i:K)(x:V):∀ {l:List (K×V)},(l.map (·.1)).Nodup->((put i x l).map (·.1)).Nodup
 | [],_=>by simp [put]
 |(a,b)::l,h=>by
  simp only [List.map_cons,List.nodup_cons] at h;unfold put
  split
  ·rename_i e;subst e;simpa using h
  ·rename_i e
   simp only [List.map_cons,List.nodup_cons];refine⟨λhm=>?_,Xf i x h.2⟩;obtain⟨q,hq,he⟩:=List.mem_map.1 hm
   rcases zhE hq with h1|h1
   ·subst h1;exact e he
   ·exact h.1 (List.mem_map.2 ⟨q,h1,he⟩)
theorem zeh {K V:Type} [DecidableEq K](i:K):∀(l:List (K×V)),(del i l).Sublist l
 | []=>List.Sublist.refl _
 |(a,b)::l=>by
  unfold del
  split
  ·exact List.sublist_cons_self _ _
  ·exact(zeh i l).cons_cons _
theorem zbL {K V:Type} [DecidableEq K](i:K){l:List (K×V)}(h:(l.map (·.1)).Nodup):((del i l).map (·.1)).Nodup:=h.sublist ((zeh i l).map _)
theorem zbM {K V:Type} [DecidableEq K] {i:K} :∀ {l:List (K×V)},i∉l.map (·.1)->zD i l=none
 | [],_=>rfl
 |(a,b)::l,h=>by
  unfold zD;rw [if_neg (λe=>h (by simp [e]))];exact zbM (λe=>h (by simp only [List.map_cons,List.mem_cons];exact .inr e))
theorem JS {K V:Type} [DecidableEq K](i j:K):∀ {l:List (K×V)},(l.map (·.1)).Nodup->zD i (del j l)=if i=j then none else zD i l
 | [],_=>by unfold del zD;split<;>rfl
 |(a,b)::l,h=>by
  simp only [List.map_cons,List.nodup_cons] at h;unfold del
  by_cases hj:j=a
  ·rw [if_pos hj];subst hj
   by_cases hi:i=j
   ·rw [if_pos hi];subst hi;exact zbM h.1
   ·rw [if_neg hi];conv=>rhs;unfold zD
    rw [if_neg hi]
  ·rw [if_neg hj]
   unfold zD;rw [JS i j h.2]
   by_cases hi:i=a
   ·rw [if_pos hi,if_pos hi,if_neg (λe=>hj (e.symm.trans hi))]
   ·rw [if_neg hi,if_neg hi]
theorem zu.setLeads(h:zu v k L S){ld:List (Int×j8)}(hn:(ld.map (·.1)).Nodup)(hl:∀(i:Nat) l,zD (i:Int) ld=some l->zbK l):zu v k L {S with leads:=ld} :=
 ⟨h.n0,h.nodes,h.seatsN,h.seats,hn,hl,h.notesN,h.notes,h.ids,h.least,h.last,h.trace⟩
theorem zu.putLead(h:zu v k L S)(i:Nat){l:j8}(hl:zbK l):zu v k L {S with leads:=put (i:Int) l S.leads} :=
 h.setLeads (Xf _ _ h.leadsN) λj l' hj=>by
  rw [Zj] at hj
  split at hj
  ·cases hj;exact hl
  ·exact h.leads j l' hj
theorem zu.delLead(h:zu v k L S)(i:Int):zu v k L {S with leads:=del i S.leads} :=
 h.setLeads (zbL _ h.leadsN) λj l' hj=>by
  rw [JS _ _ h.leadsN] at hj
  split at hj
  ·cases hj
  ·exact h.leads j l' hj
end
open Go Go.RowKit Go.Shelf Go.Extern.Stop Go.Stop Go.Extern
attribute [local go_sem] Oper.semAt_some zv zm
theorem Xg(e:jy):(qU e).1.length<=4000:=by
 unfold qU jv;simp only
 repeat' split
 all_goals (simp at*;try omega)
theorem YX(era:qZ):∀(l p:List zy)(r:List UInt8×Bool),r.1.length<=4000->(jT era p l r).1.length<=4000
 | [],p,r,h=>by unfold jT;exact h
 |m::l,p,r,h=>by
  unfold jT
  split
  ·exact YX era l _ _ (Xg _)
  ·exact h
