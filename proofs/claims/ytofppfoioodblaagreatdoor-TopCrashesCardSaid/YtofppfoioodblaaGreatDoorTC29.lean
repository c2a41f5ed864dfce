/- PARTS OF THE PROOF. -/
import Derived.Test.YtofppfoioodblaaGreatDoorTC28
set_option maxRecDepth 8000
set_option maxHeartbeats 4000000
open Go.Proofs.Tryz
namespace Go.Proofs.YtofppfoioodblaaGreatDoor
open Go Go.RowKit Go.Shelf Go.Extern.Stop Go.Stop Go.Extern
attribute [local go_sem] Oper.semAt_some zB zp
theorem zbi {K V:Type} [DecidableEq K](i:K)(x y:V):∀l:List (K×V),put i y (put i x l)=put i y l
 | []=>by simp [put]
 |(a,b)::l=>by
  unfold put
  by_cases h:i=a
  ·rw [if_pos h];simp [put,h]
  rw [if_neg h];simp only [put,if_neg h];rw [zbi i x y l]
theorem zbj(B:Nat)(K:WK)(S:zf)(t:List Nat)(ht:t≠ [])(ow:Own)(i src:Nat)(hi:i<16)(hsrc:src<16)(inst:Int)(ballot:Nat)(w:World)(h:zI B K S t ow w)(hg:zbe S)(hlv:∀l,zE (i:Int) S.leads=some l->l.value.length<=900000/\l.votes<=1000):
 Calls prog 153 #[.pointer (some ⟨B,0,none⟩),.int .i64 i,.int .i64 src,x4 inst ballot] w (xK B K (countVote S i src inst ballot) t ow w (.tuple #[])):=by
 obtain⟨tv,lp,hI⟩:=h;have an:Below w.heap.size w (w.alloc (.cells #[.int .i64 inst,.int .u64 (ballot:Nat)] 171)):=pbx;have ah:=(zl.loc B K tv lp S t).cut hI an;have km:Blk (w.alloc (.cells #[.int .i64 inst,.int .u64 (ballot:Nat)] 171)) w.heap.size #[.int .i64 inst,.int .u64 (ballot:Nat)] 171:=Blk.new rfl;have ba:(ow.cut w) w.heap.size=[]:=Own.cut_new (N0 _);have af:=λW hW=>Qf (B:=B) (K:=K) (tv:=tv) (lp:=lp) (S:=S) (t:=t) (ow:=ow.cut w) i inst ballot W hW
 obtain⟨ai,ap⟩:∃o,ow.cut w=o:=⟨_,rfl⟩;have bk:zt t ai w ai w:=zt.refl _ _ _;rw [ap] at ah ba af;unfold x4 at*;clear hI
 cases hbb:VH S i inst ballot with
 |false=>
  have ae:countVote S i src inst ballot=S:=by
   unfold countVote;unfold VH at hbb
   cases hl:zE (i:Int) S.leads with
   |none=>rfl
   |some l=>
    rw [hl] at hbb;simp only at hbb⊢;rw [if_pos]
    by_cases h1:l.inst=inst
    ·right;left;intro h2;simp [h1,h2] at hbb
    left;exact h1
  rw [ae];rw [hbb] at af;replace af:=hid af;clear ae hbb
  go_enter func153,ntmps153
  go_wp2_with fail
  refine(af.out _ ah).mono ?_;rintro e w2⟨rfl,aa⟩;have al:=(zl.loc B K tv lp S t).below ah aa;have ag:=zh an aa;go_wp2;go_end0
  exact⟨rfl,ai,zt.wrap ag (by rw [ap];exact zt.refl _ _ _),tv,lp,al⟩
 |true=>
  obtain⟨l,hl,bv,bl⟩:∃l,zE (i:Int) S.leads=some l/\l.inst=inst/\l.ballot=ballot:=by
   unfold VH at hbb
   cases hl:zE (i:Int) S.leads with
   |none=>rw [hl] at hbb;cases hbb
   |some l=>rw [hl] at hbb;simp at hbb;exact⟨l,rfl,hbb.1,hbb.2⟩
  obtain⟨lb,aq,h1,h2,pv,aj,am,o1,o2⟩:=ah.leadAt hl;rw [hbb,aq] at af;unfold zmw at af;simp only [Option.map_some] at af
  have ae:countVote S i src inst ballot=if l.told∨l.voted[src]?.getD false then S
   else if 2*(l.votes+1)<=S.nodes.length then {S with leads:=put (i:Int) {l with voted:=l.voted.set src true,votes:=l.votes+1} S.leads}
   else j9 {S with leads:=put (i:Int) {l with voted:=l.voted.set src true,votes:=l.votes+1,told:=true} S.leads} 7 i inst ballot l.value:=by
   unfold countVote;rw [hl];simp only
   by_cases hc:l.told∨l.voted[src]?.getD false
   ·rw [if_pos (.inr (.inr hc)),if_pos hc]
   rw [if_neg hc,if_neg (by rw [bv,bl];simp only [ne_eq,not_true_eq_false,false_or];exact hc)]
  have bq:=hlv l hl;have ao:=QJ (pv:=pv) h1 h2 hsrc;have a4:=vy (pv:=pv) h1 h2 2;have bi:=vy (pv:=pv) h1 h2 0;obtain⟨vd,a2⟩:∃b,l.voted[src]?.getD false=b:=⟨_,rfl⟩;rw [a2] at ao ae;have y0:(0:Int)<=(src:Int):=by omega
  have y1:(src:Int)<16:=by omega
  replace af:=hid af;replace a2:=hid a2;replace hlv:=hid hlv;replace hbb:=hid hbb;replace hl:=hid hl;replace aq:=hid aq;replace o2:=hid o2
  by_cases hc:l.told=true∨vd=true
  ·rw [if_pos hc] at ae
   rw [ae];replace ae:=hid ae
   cases az:l.told with
   |true=>
    go_enter func153,ntmps153
    go_wp2_with fail
    refine(af.out _ ah).mono ?_;rintro e w2⟨rfl,aa⟩;have al:=(zl.loc B K tv lp S t).below ah aa;have ag:=zh an aa;have ak:=(aj.call aa).cellL a4;simp only [Nat.reduceAdd,az] at ak;go_wp2;go_end0
    exact⟨rfl,ai,zt.wrap ag (by rw [ap];exact zt.refl _ _ _),tv,lp,al⟩
   |false=>
    have a5:vd=true:=by rw [az] at hc;simpa using hc
    subst a5
    go_enter func153,ntmps153
    go_wp2_with fail
    refine(af.out _ ah).mono ?_;rintro e w2⟨rfl,aa⟩;have al:=(zl.loc B K tv lp S t).below ah aa;have ag:=zh an aa;have ak:=(aj.call aa).cellL a4;have bd:=(aj.call aa).cellL ao;simp only [Nat.reduceAdd,az] at ak;clear hc;go_wp2;go_end0
    exact⟨rfl,ai,zt.wrap ag (by rw [ap];exact zt.refl _ _ _),tv,lp,al⟩
  rw [if_neg hc] at ae
  rw [not_or] at hc;have az:l.told=false:=by simpa using hc.1
  have bm:vd=false:=by simpa using hc.2
  subst bm;replace ae:=hid ae;clear hc
  go_enter func153,ntmps153
  go_wp2_with fail
  refine(af.out _ ah).mono ?_;rintro e w2⟨rfl,aa⟩;have al:=(zl.loc B K tv lp S t).below ah aa;have ag:=zh an aa;have ac:=aj.call aa;have ak:=ac.cellL a4;have bd:=ac.cellL ao;have au:=ac.cellL bi;have f2:=ac.frozen;have l2:=ac.lt;have bz:IntKind.i64.wrap ((l.votes:Int)+1)=((l.votes+1:Nat):Int):=by rw [N8];omega
  go_wp2_with fail
  have bj:(l.votes:Int)+1=((l.votes+1:Nat):Int):=by omega
  rw [bj];obtain⟨w3,a0⟩:∃w3,w3=(w2.setCell ⟨lb,20+src,none⟩ (.bool true)).setCell ⟨lb,36,none⟩ (.int .i64 ((l.votes+1:Nat):Int)):=⟨_,rfl⟩;have a3:Mod (λk=>k=lb) w2 w3:=by rw [a0];exact((Mod.refl (λk=>k=lb) w2).thenSet (p:=⟨lb,20+src,none⟩) rfl _).thenSet (p:=⟨lb,36,none⟩) rfl _
  have ad:Blk w3 lb (zG pv {l with voted:=l.voted.set src true,votes:=l.votes+1}).toArray 175:=by
   rw [a0];exact(ac.setL (zcR h1 h2 hsrc true)).setL (zbg (l:={l with voted:=l.voted.set src true}) h1 (by simp [h2]) (l.votes+1))
  rw [← a0];clear a0 ak bd au f2 l2;obtain⟨bh,bt⟩:=Ji (l':={l with voted:=l.voted.set src true,votes:=l.votes+1}) ac (am.below aa) o1 o2.out a3 ad rfl h1 (by simp [h2]);have a6:=al.setLead aq.out bh bt;have be:lb≠w.heap.size:=λe=>by rw [e,ba] at o1;simp at o1
  have bf:=(km.call aa).kept (a3.block _ (km.call aa).lt (λe=>be e.symm));have au:=ad.cellL (vy (l:={l with voted:=l.voted.set src true,votes:=l.votes+1}) h1 (by simp [h2]) 0);have c2:w3.cell? ⟨lb,2,none⟩=some (.string (bs l.value)):=ad.cell 2;have a7:=a6.blk;have ax:zt t ai (w.alloc (.cells #[.int .i64 inst,.int .u64 (ballot:Nat)] 171)) ai w3:=(zt.of_below t ai aa).trans (bh.mono (Sub.child t (i+32)));have b0:IntKind.i64.wrap (2*((l.votes+1:Nat):Int))=((2*(l.votes+1):Nat):Int):=by rw [N8];omega
  simp only [Nat.add_zero] at au;obtain⟨N,hN⟩:∃N,S.nodes.length=N:=⟨_,rfl⟩;simp only [hN] at a7;have b1:(l.votes+1:Nat)=(l.votes+1:Nat):=rfl
  generalize hV:l.votes+1=V at*
  have f3:=ad.frozen;have l3:=ad.lt;have ak:=ad.cellL (vy (l:={l with voted:=l.voted.set src true,votes:=V}) h1 (by simp [h2]) 2);simp only [Nat.reduceAdd] at ak;replace hV:=hid hV;refine zd [O 0,O 1,O 2,O 3,O 4,O 5,O 6,O 7,O 8,O 9,O 10] none (λw'=>w'.cell? ⟨lb,36,none⟩=some (.int .i64 (V:Nat))/\Blk w' B #[.slice (some ⟨K.nb,0,none⟩) N K.nc,.slice (some ⟨K.sb,0,none⟩) N N,.map (some K.lm),.pointer (some ⟨K.fb,0,none⟩),.map (some K.hm),.map (some K.dm),tv] 65/\True) ⟨au,a7.drew,trivial⟩ ?_
  (repeat (refine za (v:=?_) rfl rfl (λw' h=>?_) (λK k=>?_);rotate_left;obtain⟨f1,f2,_⟩:=h;have e2:=f2.cell;go_simp;(try with_reducible rfl);go_simp;refine k _ ?_;clear k K))
  refine ze ?_
  by_cases hle:2*V<=N
  ·have t9:decide (2*V<=N)=true:=by simpa using hle
   rw [hN,if_pos hle] at ae;go_wp2;go_end0
   exact⟨rfl,ai,zt.wrap an (by rw [ap];exact ax.trans (zt.drew _ _ _)),by rw [ae.out];exact⟨tv,lp,(zl.loc B K tv lp _ t).below a6 (zq (N2 _ _))⟩⟩
  have t9:decide (2*V<=N)=false:=by simpa using hle
  rw [hN,if_neg hle] at ae;go_wp2_with fail
  obtain⟨w4,ay⟩:∃w4,w4=w3.setCell ⟨lb,38,none⟩ (.bool true):=⟨_,rfl⟩;have bg:Mod (λk=>k=lb) w3 w4:=by rw [ay];exact(Mod.refl (λk=>k=lb) w3).thenSet (p:=⟨lb,38,none⟩) rfl _
  have aw:Blk w4 lb (zG pv {l with voted:=l.voted.set src true,votes:=V,told:=true}).toArray 175:=by
   rw [ay];exact ad.setL (zcS (l:={l with voted:=l.voted.set src true,votes:=V}) h1 (by simp [h2]) true)
  obtain⟨a8,bu⟩:=Ji (l:={l with voted:=l.voted.set src true,votes:=V}) (l':={l with voted:=l.voted.set src true,votes:=V,told:=true}) ad ((am.below aa).mod a3 (λg hg e=>(am.below aa).ne_blk ac (by decide) hg e)) o1 o2.out bg aw rfl h1 (by simp [h2]);have br:=a6.setLead aq.out a8 bu;have a9:=bf.kept (bg.block _ bf.lt (λe=>be e.symm));have bb:w4.cell? ⟨lb,2,none⟩=some (.string (bs l.value)):=aw.cell 2;rw [← ay];clear ay au c2 f3 l3 ak a7;obtain⟨W5,a1⟩:∃W5,W5=(w4.alloc (.cells #[.string (bs l.value)] 9)).drew.drew:=⟨_,rfl⟩;have bc:Below w4.heap.size w4 W5:=by rw [a1];exact zq (zq (zi (N2 _ _) _))
  have bo:=(zl.loc B K tv lp _ t).cut br bc;have k5:Blk W5 w4.heap.size #[.string (bs l.value)] 9:=by rw [a1];exact(Blk.new rfl).drew.drew
  have ar:=ZY B K {S with leads:=put (i:Int) {l with voted:=l.voted.set src true,votes:=V,told:=true} (put (i:Int) {l with voted:=l.voted.set src true,votes:=V} S.leads)} t ht (ai.cut w4) 7 i (by omega) hi inst ballot (.slice (some ⟨w4.heap.size,0,none⟩) 1 1) [l.value] W5 ⟨tv,lp,bo⟩ ⟨hg.notes,hg.last,hg.n0⟩ (jP (n:=1) (size:=1) (cap:=1) k5 rfl (N0 1)) (by simp) (by simp;omega) (λa l' c e=>by cases e;exact Own.cut_new (N0 _));rw [show [l.value].flatten=l.value by simp,zbi] at ar;unfold x4 at ar;replace ar:=hid ar;refine zd [O 0,O 1,O 2,O 3,O 4,O 5,O 6,E 7,E 8] (some 8) (λw'=>Blk w' w.heap.size #[.int .i64 inst,.int .u64 (ballot:Nat)] 171/\w'.cell? ⟨lb,2,none⟩=some (.string (bs l.value))/\True) ⟨a9.drew,bb,trivial⟩ ?_
  refine Wo ?_
  refine zc rfl (λK hK=>?_);go_wp2;refine hK.out _ _ (λ_=>⟨(a9.alloc _).drew,jI (w:=w4) bb _,trivial⟩) ?_;clear hK
  refine Wo ?_
  rw [← a1];clear a1;refine zc rfl (λK hK=>?_);go_wp2_with fail
  refine ar.out.mono ?_;rintro e w6⟨rfl,bw,bp,bn⟩;go_wp2;refine hK.out _ _ (λhh=>absurd rfl hh) ?_;clear hK;refine ze ?_;go_wp2;go_end0
  exact⟨rfl,bw,zt.wrap an (by rw [ap];exact(ax.trans (a8.mono (Sub.child t (i+32)))).trans (zt.wrap bc bp)),by rw [ae.out];exact bn⟩
theorem Qg(v:Value)(hv:∃a n c,v=.slice a n c)(w:World):Calls prog 252 #[v] w λe w'=>
 e=.returned (.func (.func 304) #[] #[.pointer (some ⟨w.heap.size,0,none⟩)])/\w'=w.alloc (.cells #[v] 172):=by
 obtain⟨a,n,c,rfl⟩:=hv
 go_enter func252,ntmps252
 go_wp2;go_ret
 exact⟨rfl,rfl⟩
theorem zeo(l:List jw)(k:Nat)(x:jw)(h:l[k]?=some x)(j:Nat)(hj:j<3):(l.flatMap zN)[k*3+j]?=(zN x)[j]?:=by
 induction l generalizing k with
 |nil=>simp at h
 |cons y l ih=>
  cases k with
  |zero=>
   simp at h;subst h
   rw [List.flatMap_cons,Nat.zero_mul,Nat.zero_add,U8 (by simp [zN];omega)]
  |succ k=>
   simp at h
   have:=ih k h;rw [List.flatMap_cons,U6 (by simp [zN];omega)];rw [← this]
   congr 1
   simp [zN];omega
theorem VI(cb:Nat)(v:Value)(l:List jw)(hlen:l.length<=1073741824):
 Qr Fence.wide 2 prog 304 #[.pointer (some ⟨cb,0,none⟩)] (λx:jw=> #[y6 x])
  (λ(k:Nat) x=>l[k]?=some x) (λk _=>k+1) (λk=>k=l.length)
  (λ_ W=>Blk W cb #[v] 172/\Src W v 3 l.length (l.flatMap zN)) 0:=by
 intro lp J Jx W hJ hJx hRd hY h0;obtain⟨r0,r1⟩:=hRd _ _ _ h0;have e0:=r0.cell;have hF:Fence.wide.fn 304:=trivial;have ae:Fence.wide.round=none:=rfl
 rcases r1.2 with⟨rfl,hn⟩|⟨b,off,cap,rfl,hc, -⟩
 ·obtain rfl:l=[]:=N9 hn
  clear r0 r1;refine callsIn_of_wp func304 rfl hF ?_ ae;simp only [ntmps304,R8,Nat.reduceAdd,Nat.reduceSub]
  gi_wp2
  gi_loopw [7] (λp wr=>p=.int .i64 0/\wr=W) (λp _=>0)
  case atStart=>exact⟨rfl,rfl⟩
  case round=>
   obtain⟨rfl,rfl⟩:=hrel
   gi_wp2
   go_end0
   exact⟨⟨_,rfl⟩,.inl ⟨0,_,rfl,h0⟩⟩
 clear r0 r1
 refine callsIn_of_wp func304 rfl hF ?_ ae;simp only [ntmps304,R8,Nat.reduceAdd,Nat.reduceSub]
 gi_wp2
 gi_loopw [7] (λp wr=>∃(k:Nat)(X:Nat->Prop),p=.int .i64 (k:Int)/\k<=l.length/\J k X wr) (λp _=>l.length - (intOf p).toNat)
 case atStart=>exact⟨0,_,rfl,Nat.zero_le _,h0⟩
 case round=>
  obtain⟨k,X,rfl,hk,ac⟩:=hrel;clear e0
  by_cases hlt:k<l.length
  ·obtain⟨x,hx⟩:∃x,l[k]?=some x:=⟨_,N3 hlt⟩
   obtain⟨-,r1⟩:=hRd _ _ _ ac
   rcases r1.2 with⟨h, -⟩|⟨b',off',cap',h, -,hr⟩
   ·cases h
   cases h
   have aa:∀j,j<3->wr.cell? ⟨b,off+(k*3+j),none⟩=(zN x)[j]?:=λj hj=>by
    have h1:=zeo l k x hx j hj
    cases hu:(zN x)[j]? with
    |none=>simp [zN] at hu;omega
    |some u=>exact hr _ u (h1.trans hu)
   have c0:wr.cell? ⟨b,off+k*3,none⟩=(zN x)[0]?:=aa 0 (by omega);have c1:wr.cell? ⟨b,off+k*3+1,none⟩=(zN x)[1]?:=aa 1 (by omega);have c2:wr.cell? ⟨b,off+k*3+2,none⟩=(zN x)[2]?:=aa 2 (by omega);have ad:=hY k x _ _ (hJ.alloc (.cells (zN x).toArray 317) ac) hx;obtain⟨p,b,s⟩:=x;simp only [zN] at c0 c1 c2 ad;simp only [List.getElem?_cons_zero,List.getElem?_cons_succ] at c0 c1 c2;clear aa hr r1;obtain⟨fn,tmps,assign,body,hy,hR⟩:=ad;unfold y6 at hy
   gi_wp2
   refine hR.mono ?_;rintro e W'(⟨rfl,ag, -⟩|⟨rfl,af⟩)
   ·clear c0 c1 c2 hR hy
    gi_wp2
    go_roundw
    case rel=>exact⟨k+1,_,by go_num,by omega,ag⟩
    case measure=>simp [intOf];omega
   gi_wp2
   refine bodyPost_ret (results_none rfl _ _ _) rfl ?_;exact⟨⟨_,rfl⟩,.inr ⟨_,af⟩⟩
  obtain rfl:k=l.length:=by omega
  gi_wp2
  go_end0
  exact⟨⟨_,rfl⟩,.inl ⟨l.length,X,rfl,ac⟩⟩
theorem zlK {w W0 W:World}{v:Value}{xs:List Value}{n:Nat}(h:Src W0 v 3 n xs)(hb:∀a m c,v=.slice (some a) m c->a.block<w.heap.size∨n=0)(hm:Mod (λk=>k=w.heap.size) W0 W)(hw:w.heap.size<=W0.heap.size):Src W v 3 n xs:=by
 refine⟨h.1,?_⟩
 rcases h.2 with h0|⟨b,off,cap,rfl,hc,hr⟩
 ·exact .inl h0
 refine .inr ⟨b,off,cap,rfl,hc,λj u hu=>?_⟩
 rcases hb _ _ _ rfl with h1|h1
 ·have h2:b<w.heap.size:=h1
  exact(hm.cell (p:=⟨b,off+j,none⟩) (by show b<_;omega) (by show¬b=_;omega)).trans (hr j u hu)
 have:=(N6.1 hu).1
 rw [h.1,h1] at this;simp at this
def zmx(l:List jw)(rb:Nat)(W0:World)(k:Nat)(X:Nat->Prop)(W:World):Prop:=
 Fr (λk=>k=rb) W0 X W/\Blk W rb #[.bool true] 4/\(l.take k).all yn=true
theorem zmx.step {l:List jw}{rb:Nat}{W0:World}{k:Nat}{X X':Nat->Prop}{W W':World}(h:zmx l rb W0 k X W)(hr:rb<W0.heap.size)(hm:Mod X W W')(hx:∀k,X' k->X k∨(W.heap.size<=k/\k<W'.heap.size)):zmx l rb W0 k X' W':=
 ⟨h.1.step hm hx,h.2.1.kept (h.1.block hm hr),h.2.2⟩
theorem zcT(v:Value)(l:List jw)(w:World)(hv:Src w v 3 l.length (l.flatMap zN))(hl:l.length<=1000):Calls prog 250 #[v] w λe w'=>e=.returned (.bool (l.all yn))/\Below w.heap.size w w':=by
 refine zm func250 rfl ?_;simp only [ntmps250,R8,Nat.reduceAdd,Nat.reduceSub];go_wp2;go_step3;go_wp2;go_step3
 go_wp2_with (go_at_call 252;refine(Qg v (by rcases hv.2 with⟨rfl, -⟩|⟨b,off,cap,rfl, -⟩<;>exact⟨_,_,_,rfl⟩) _).mono ?_;rintro e w1 ⟨rfl,rfl⟩)
 obtain⟨W0,af⟩:∃W0,W0=(w.alloc (.cells #[.bool true] 4)).alloc (.cells #[v] 172):=⟨_,rfl⟩;have aj:Below w.heap.size w W0:=by rw [af];exact pbx
 have a0:W0.heap.size=w.heap.size+2:=by rw [af];simp
 have kr:Blk W0 w.heap.size #[.bool true] 4:=by rw [af];exact bkx
 have kc:Blk W0 (w.heap.size+1) #[v] 172:=by rw [af];exact Blk.new (by simp)
 have ap:=hv.below aj
 have aq:∀a n c,v=.slice (some a) n c->a.block<w.heap.size∨l.length=0:=λa n c e=>by
  rcases hv.2 with⟨h,h0⟩|⟨b,off,cap,h, -,hr⟩
  ·exact .inr h0
  by_cases h0:l.length=0
  ·exact .inr h0
  left
  rw [h] at e;cases e
  obtain⟨x,hx⟩:∃x,(l.flatMap zN)[0]?=some x:=⟨_,N3 (by rw [YG];omega)⟩;exact jO (hr 0 x hx)
 rw [← af];clear af
 refine yJ (gf:=304) (lb:=#[.pointer (some ⟨w.heap.size+1,0,none⟩)]) rfl (enters_of func304 (by kernel_rfl) rfl)
  (VI (w.heap.size+1) v l (by omega)) (λ_=>rfl)
  (λk X W=>zmx l w.heap.size W0 k X W)
  (λc X W=>c=.exit 0/\Fr (λk=>k=w.heap.size) W0 X W/\Blk W w.heap.size #[.bool false] 4/\l.all yn=false)
  (λk X X' W W' h hm hx=>h.step (by omega) hm hx)
  (λc s X X' W W' h hm hx=>⟨h.1,h.2.1.step hm hx,h.2.2.1.kept (h.2.1.block hm (by omega)),h.2.2.2⟩)
  (λk X W h=>⟨kc.mod h.1.2 (by omega),zlK ap aq h.1.2 (by omega)⟩)
  (λk X W h=>⟨h.1.2.size,λk hk=>(h.1.1 k hk).2⟩)
  ⟨Fr.refl _ _,kr,rfl⟩
  4 317 (λx=> #[.int .u64 (x.1:Nat),.int .u64 (x.2.1:Nat),.string (bs x.2.2)]) ?assign ?body ?done ?stop
 case assign=>
  intro l' x W K hK;rw [zW] at hK⊢;unfold y6 at hK⊢
  gi_wp2
  exact hK
 case body=>
  rintro l' k x cb X X1 W1 W h1⟨ad,kb,aa⟩ ai au aw a1 kx a2 _;have ac:=λW=>Y3 x W
  unfold y6 at ac;rw [zW];unfold y6
  have an:(l.take (k+1)).all yn=((l.take k).all yn && yn x):=by
   rw [List.take_add_one,ai];simp
  have am:x∈l:=List.mem_of_getElem? ai;have c0:=kx.cell;obtain⟨x1,x2,x3⟩:=x;simp only at c0 ac kx;replace ac:=hid ac;replace ai:=hid ai
  cases hq:yn (x1,x2,x3)with
  |true=>
   rw [hq] at an ac
   gi_wp2_with (gi_at_call 303;refine(inRound _ _ (ac.out _)).mono ?_;rintro e w1 ⟨rfl,ag⟩)
   have hm:Mod (λk=>k=w.heap.size) W w1:=Mod.of_below _ ag;exact⟨⟨ad.mod hm (λk _ h=>h),kb.call ag,by rw [an,aa];rfl⟩,jJ.of_mod (Mod.of_below (λ_=>False) ag) (λk _ hX he=>he)⟩
  |false=>
   rw [hq] at ac
   have ar:l.all yn=false:=by
    rw [List.all_eq_false];exact⟨_,am,by rw [hq];simp⟩
   gi_wp2_with (gi_at_call 303;refine(inRound _ _ (ac.out _)).mono ?_;rintro e w1 ⟨rfl,ag⟩;have ah:=kb.call ag;have az:=ah.frozen;have ay:=ah.cell;have ax:=ah.lt)
   have hm:Mod (λk=>k=w.heap.size) W (w1.setCell ⟨w.heap.size,0,none⟩ (.bool false)):=(Mod.of_below (λk=>k=w.heap.size) ag).thenSet (p:=⟨w.heap.size,0,none⟩) rfl _;exact⟨⟨rfl,ad.mod hm (λk _ h=>h),ah.set _,ar⟩,jJ.of_mod hm (λk _ hX he=>by have:=ad.1 k hX;omega)⟩
 case done=>
  rintro D k X W hD ao al⟨ad,kb,aa⟩ ae;obtain rfl:k=l.length:=al;rw [List.take_length] at aa;have eb:=kb.cell;have ak:Below w.heap.size w W:=aj.trans (ad.below (by omega) (λk h=>by omega));go_wp2;rw [Exit.noGoto_ret];go_wp2;exact jb (D:=D) (v:=.bool true) ae (by simp [results,Tryz.results250,go_sem]) ⟨by rw [aa],zM ak (by omega) _⟩
 case stop=>
  rintro D c X W hD ao⟨rfl,ad,kb,aa⟩ ae;have eb:=kb.cell;have ak:Below w.heap.size w W:=aj.trans (ad.below (by omega) (λk h=>by omega));go_wp2;rw [Exit.noGoto_ret];go_wp2;exact jb (D:=D) (v:=.bool false) ae (by simp [results,Tryz.results250,go_sem]) ⟨by rw [aa],zM ak (by omega) _⟩
def YJ(l:List jw)(own:List UInt8):jw:=l.foldl (λ(b:jw) v=>if b.2.1<v.2.1 then v else b) (0,0,own)
theorem zkI {w W0 W:World}{v:Value}{xs:List Value}{n rb:Nat}(h:Src W0 v 3 n xs)(hb:∀a m c,v=.slice (some a) m c->a.block<w.heap.size∨n=0)(hm:Mod (λk=>k=rb) W0 W)(hr:w.heap.size<=rb)(hw:w.heap.size<=W0.heap.size):Src W v 3 n xs:=by
 refine⟨h.1,?_⟩
 rcases h.2 with h0|⟨b,off,cap,rfl,hc,hr⟩
 ·exact .inl h0
 refine .inr ⟨b,off,cap,rfl,hc,λj u hu=>?_⟩
 rcases hb _ _ _ rfl with h1|h1
 ·have h2:b<w.heap.size:=h1
  exact(hm.cell (p:=⟨b,off+j,none⟩) (by show b<_;omega) (by show¬b=_;omega)).trans (hr j u hu)
 have:=(N6.1 hu).1
 rw [h.1,h1] at this;simp at this
theorem zg9(l:List jw)(x:jw)(own:List UInt8):YJ (l++ [x]) own=if(YJ l own).2.1<x.2.1 then x else YJ l own:=by
 unfold YJ;rw [List.foldl_append];rfl
def zmy(l:List jw)(own:List UInt8)(rb:Nat)(W0:World)(k:Nat)(X:Nat->Prop)(W:World):Prop:=
 Fr (λk=>k=rb) W0 X W/\Blk W rb #[.int .u64 ((YJ (l.take k) own).1:Nat),.int .u64 ((YJ (l.take k) own).2.1:Nat),.string (bs (YJ (l.take k) own).2.2)] 317
theorem zmy.step {l:List jw}{own:List UInt8}{rb:Nat}{W0:World}{k:Nat}{X X':Nat->Prop}{W W':World}(h:zmy l own rb W0 k X W)(hr:rb<W0.heap.size)(hm:Mod X W W')(hx:∀k,X' k->X k∨(W.heap.size<=k/\k<W'.heap.size)):zmy l own rb W0 k X' W':=
 ⟨h.1.step hm hx,h.2.kept (h.1.block hm hr)⟩
theorem zcU(n:Nat)(hn:1<=n/\n<=16)(v:Value)(l:List jw)(own:List UInt8)(w:World)(hv:Src w v 3 l.length (l.flatMap zN))(hl:l.length<=1000):Calls prog 204 #[.int .i64 n,v,.string (bs own)] w λe w'=>e=.returned (.tuple #[.string (bs (Zh n l own).1),.int .i64 (Zh n l own).2])/\Below w.heap.size w w':=by
 have ac:=λW hW=>zcT v l W hW hl
 have aw:∃a c,v=.slice a l.length c:=by
  rcases hv.2 with⟨rfl,h0⟩|⟨b,off,cap,rfl, -⟩
  ·rw [h0];exact⟨_,_,rfl⟩
  exact⟨_,_,rfl⟩
 obtain⟨va,vc,rfl⟩:=aw;have t1:decide ((n:Int)<1)=false:=by simp;omega
 have t2:decide ((16:Int)<(n:Int))=false:=by simp;omega
 have az:IntKind.i64.wrap (2*(l.length:Int))=((2*l.length:Nat):Int):=by rw [N8];omega
 have af:=hv;unfold Zh
 by_cases hc:n<l.length∨2*l.length<=n
 ·rw [if_pos hc]
  by_cases h1:n<l.length
  have t3:decide (n<l.length)=true:=by simpa using h1
  rotate_left
  have t3:decide (n<l.length)=false:=by simpa using h1
  have t4:decide (2*(l.length:Int)<=(n:Int))=true:=by simp;omega
  all_goals
   clear hc h1 hn hl ac;refine zm func204 rfl ?_;simp only [ntmps204,R8,Nat.reduceAdd,Nat.reduceSub];go_wp2;exact jU (v:=.tuple #[.string (bs []),.int .i64 81]) (by simp [results,Tryz.results204,go_sem];rfl) ⟨rfl,N2 _ _⟩
 rw [if_neg hc]
 rw [not_or] at hc;have t3:decide (n<l.length)=false:=by simpa using hc.1
 have t4:decide (2*(l.length:Int)<=(n:Int))=false:=by simp;omega
 clear hc hn;replace ac:=hid ac
 cases hal:l.all yn with
 |false=>
  rw [if_pos (.inl rfl)];rw [hal] at ac;replace hal:=hid hal;refine zm func204 rfl ?_;simp only [ntmps204,R8,Nat.reduceAdd,Nat.reduceSub];go_wp2_with fail
  refine(ac.out _ af).mono ?_;rintro e w1⟨rfl,ah⟩;go_wp2;exact jU (v:=.tuple #[.string (bs []),.int .i64 2]) (by simp [results,Tryz.results204,go_sem];rfl) ⟨rfl,ah⟩
 |true=>
  rw [hal] at ac;replace hal:=hid hal;have ak:=λb W hW=>XM b own W hW
  replace ak:=hid ak
  by_cases ho:4000<own.length
  ·rw [if_pos (.inr ho)]
   refine zm func204 rfl ?_;simp only [ntmps204,R8,Nat.reduceAdd,Nat.reduceSub];go_wp2_with fail
   refine(ac.out _ af).mono ?_;rintro e w1⟨rfl,ah⟩;go_wp2_with fail
   refine(ak.out _ _ (by simp)).mono ?_;rintro e w2⟨rfl,rfl⟩;have t5:decide (own.length<=4000)=false:=by simp;omega
   clear ho;go_wp2;exact jU (v:=.tuple #[.string (bs []),.int .i64 2]) (by simp [results,Tryz.results204,go_sem];rfl) ⟨rfl,pbx⟩
  rw [if_neg (by simp;omega)]
  have t5:decide (own.length<=4000)=true:=by simp;omega
  clear ho;replace hl:=hid hl;refine zm func204 rfl ?_;simp only [ntmps204,R8,Nat.reduceAdd,Nat.reduceSub];go_wp2_with fail
  refine(ac.out _ af).mono ?_;rintro e w1⟨rfl,ah⟩;go_wp2_with fail
  refine(ak.out _ _ (by simp)).mono ?_;rintro e w2⟨rfl,rfl⟩
  go_wp2_with (go_at_call 252;refine(Qg _ ⟨_,_,_,rfl⟩ _).mono ?_;rintro e w2 ⟨rfl,rfl⟩)
  obtain⟨W0,ag⟩:∃W0,W0=((w1.alloc (.cells #[.string (bs own)] 9)).alloc (.cells #[.int .u64 0,.int .u64 0,.string (bs own)] 317)).alloc (.cells #[.slice va l.length vc] 172):=⟨_,rfl⟩;have ao:Below w1.heap.size w1 W0:=by rw [ag];exact pbx
  have a0:W0.heap.size=w1.heap.size+3:=by rw [ag];simp
  have kr:Blk W0 (w1.heap.size+1) #[.int .u64 0,.int .u64 0,.string (bs own)] 317:=by rw [ag];exact bkx
  have kc:Blk W0 (w1.heap.size+1+1) #[.slice va l.length vc] 172:=by rw [ag];exact Blk.new (by simp)
  have al:=af.below ah;have aq:=al.below ao
  have ar:∀a n c,(Value.slice va l.length vc)=.slice (some a) n c->a.block<w1.heap.size∨l.length=0:=λa n c e=>by
   rcases al.2 with⟨h,h0⟩|⟨b,off,cap,h, -,hr⟩
   ·exact .inr h0
   by_cases h0:l.length=0
   ·exact .inr h0
   left
   rw [h] at e;cases e
   obtain⟨x,hx⟩:∃x,(l.flatMap zN)[0]?=some x:=⟨_,N3 (by rw [YG];omega)⟩;exact jO (hr 0 x hx)
  rw [← ag];clear ag
  refine yJ (gf:=304) (lb:=#[.pointer (some ⟨w1.heap.size+1+1,0,none⟩)]) rfl (enters_of func304 (by kernel_rfl) rfl)
   (VI (w1.heap.size+1+1) _ l (by have:=hl.out;omega)) (λ_=>rfl)
   (λk X W=>zmy l own (w1.heap.size+1) W0 k X W)
   (λc X W=>False)
   (λk X X' W W' h hm hx=>h.step (by omega) hm hx)
   (λc s X X' W W' h hm hx=>h)
   (λk X W h=>⟨kc.mod h.1.2 (by omega),zkI aq ar h.1.2 (by omega) (by omega)⟩)
   (λk X W h=>⟨h.1.2.size,λk hk=>(h.1.1 k hk).2⟩)
   ⟨Fr.refl _ _,kr⟩
   9 317 (λx=> #[.int .u64 (x.1:Nat),.int .u64 (x.2.1:Nat),.string (bs x.2.2)]) ?assign ?body ?done ?stop
  case assign=>
   intro l' x W K hK;rw [zW] at hK⊢;unfold y6 at hK⊢
   gi_wp2
   exact hK
  case body=>
   rintro l' k x cb X X1 W1 W h1⟨ai,kb⟩ am ax ay a1 kx a2 _;rw [zW];unfold y6
   have aa:YJ (l.take (k+1)) own=if(YJ (l.take k) own).2.1<x.2.1 then x else YJ (l.take k) own:=by
    rw [List.take_add_one,am];exact zg9 _ _ _
   obtain⟨ae,ad⟩:∃ae,YJ (l.take k) own=ae:=⟨_,rfl⟩;rw [ad] at aa kb;clear ad;obtain⟨x1,x2,x3⟩:=x;obtain⟨b1,b2,b3⟩:=ae;simp only at kx kb aa;replace am:=hid am;replace af:=hid af;clear al hv;have c0:=kx.cell;have lx:=kx.lt;have fx:=kx.frozen;have e0:=kb.cell;have lb:=kb.lt;have fb:=kb.frozen
   by_cases hq:b2<x2
   ·have t6:decide (b2<x2)=true:=by simpa using hq
    rw [if_pos hq] at aa;clear hq;replace aa:=hid aa
    gi_wp2
    have hm:Mod (λk=>k=w1.heap.size+1) W (((W.setCell ⟨w1.heap.size+1,0,none⟩ (.int .u64 x1)).setCell ⟨w1.heap.size+1,1,none⟩ (.int .u64 x2)).setCell ⟨w1.heap.size+1,2,none⟩ (.string (bs x3))):=(((Mod.refl (λk=>k=w1.heap.size+1) W).thenSet (p:=⟨w1.heap.size+1,0,none⟩) rfl _).thenSet (p:=⟨w1.heap.size+1,1,none⟩) rfl _).thenSet (p:=⟨w1.heap.size+1,2,none⟩) rfl _;exact⟨⟨ai.mod hm (λk _ h=>h),by rw [aa.out];exact((kb.set (o:=0) _).set (o:=1) _).set (o:=2) _⟩,jJ.of_mod hm (λk _ hX he=>by have:=ai.1 k hX;omega)⟩
   have t6:decide (b2<x2)=false:=by simpa using hq
   rw [if_neg hq] at aa;clear hq;replace aa:=hid aa
   gi_wp2
   exact⟨⟨ai,by rw [aa.out];exact kb⟩,jJ.refl _ _⟩
  case done=>
   rintro D k X W hD ap an⟨ai,kb⟩ aj;obtain rfl:k=l.length:=an;rw [List.take_length] at kb;have eb:=kb.cell;have au:Below w1.heap.size w1 W:=ao.trans (ai.below (by omega) (λk h=>by omega));go_wp2;exact jb (D:=D) (v:=.tuple #[.string (bs (YJ l own).2.2),.int .i64 0]) aj (by simp [results,Tryz.results204,go_sem]) ⟨rfl,zM (zh ah au) (by have:=ah.size;omega) _⟩
  case stop=>
   rintro D c X W hD ap h aj;exact h.elim
theorem zjb(b i:Nat)(hi:i<16)(w:World):Calls prog 95 #[.int .u64 b,.int .i64 i] w λe w'=>e=.returned (.tuple #[.int .u64 (jB b i).1,.int .i64 (jB b i).2])/\w'=w:=by
 have t1:decide ((i:Int)<0)=false:=by simp
 have t2:decide ((16:Int)<=(i:Int))=false:=by simp;omega
 unfold jB
 by_cases hb:1152921504606846976<b
 ·rw [if_pos (.inr hb)]
  have t3:decide (1152921504606846976<(b:Int))=true:=by simp;omega
  have t4:decide (1152921504606846976<b)=true:=by simpa using hb
  clear hb hi
  go_enter func95,ntmps95
  go_wp2;go_ret2
  exact⟨rfl,rfl⟩
 have t3:decide (1152921504606846976<(b:Int))=false:=by simp;omega
 have t4:decide (1152921504606846976<b)=false:=by simpa using hb
 rw [if_neg (by omega)]
 have aa:(b / 16*16)|||i=b / 16*16+i:=by
  have:=Nat.two_pow_add_eq_or_of_lt (i:=4) (b:=i) (by omega) (b / 16);rw [Nat.mul_comm (b / 16) 16];exact this.symm
 have q1:IntKind.u64.wrap ((b:Int) / 16*16)=(b:Int) / 16*16:=by rw [IntKind.wrap_u64];omega
 have q2:IntKind.u64.wrap (i:Int)=(i:Int):=by rw [IntKind.wrap_u64];omega
 have q3:bits .or .u64 ((b:Int) / 16*16) (i:Int)=((b / 16*16+i:Nat):Int):=by
  have:=XS (b / 16*16) i (by omega) (by omega);rw [aa] at this;rw [← this];norm_cast
 obtain⟨X,hX⟩:∃X,b / 16*16+i=X:=⟨_,rfl⟩;have q4:IntKind.u64.wrap ((X:Int)+16)=((X+16:Nat):Int):=by rw [IntKind.wrap_u64];omega
 rw [hX] at q3⊢;clear hb hi aa hX
 by_cases hx:X<=b
 ·have t5:decide (X<=b)=true:=by simpa using hx
  rw [if_pos hx];clear hx
  go_enter func95,ntmps95
  go_wp2;go_ret2
  exact⟨rfl,rfl⟩
 have t5:decide (X<=b)=false:=by simpa using hx
 rw [if_neg hx];clear hx
 go_enter func95,ntmps95
 go_wp2;go_ret2
 exact⟨rfl,rfl⟩
