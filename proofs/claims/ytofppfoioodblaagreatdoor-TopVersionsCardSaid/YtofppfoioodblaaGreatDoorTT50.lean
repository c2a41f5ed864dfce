/- PARTS OF THE PROOF. -/
import Derived.Test.YtofppfoioodblaaGreatDoorTT06
import Derived.Test.YtofppfoioodblaaGreatDoorTT15
import Derived.Test.YtofppfoioodblaaGreatDoorTT47
import Derived.Test.YtofppfoioodblaaGreatDoorTT49
set_option maxRecDepth 8000
set_option maxHeartbeats 4000000
open Go.Proofs.Tryz
namespace Go.Proofs.YtofppfoioodblaaGreatDoor
section
open Go
theorem QG {K V:Type} [DecidableEq K](k:K)(x:V):∀(l:List (K×V)),zD k l=none->put k x l=l++ [(k,x)]
 | [],_=>rfl
 |(a,b)::l,h=>by
  unfold zD at h
  by_cases hk:k=a
  ·rw [if_pos hk] at h;cases h
  ·rw [if_neg hk] at h
   unfold put;rw [if_neg hk,QG k x l h,List.cons_append]
theorem QH(j:Nat)(d:List UInt8)(c:Nat):∀(k t:Nat),(c<t∨t+k<=c)->zD ((j:Int),c+1) ((jD j d t k).map λm=>(m.1,m))=none
 |0,_,_=>rfl
 |k+1,t,h=>by
  rw [xI,List.map_cons];unfold zD;rw [if_neg (λe=>by have:=congrArg Prod.snd e;simp only at this;omega)];exact QH j d c k (t+1) (by omega)
variable {d:List UInt8}{k room j t a:Nat}{L:zR}{m:zp}
theorem Ve.broadcast(h:Ve d k L (room+200) j t a m)(hj:j<16)(hd:d.length<=100)(ha:a<100000)(hw:a - t<1000):
 (zF m d).2.2=0/\Ve d k L room j t (a+1) (zF m d).1:=by
 have hr:zB (((j:Int),a+1),d)=true:=by simp only [zB,Bool.and_eq_true,decide_eq_true_eq];omega
 have hal:m.acc.length=a:=by rw [h.acc,yG]
 have hpk:=Q0 hr
 have hrec:([109] ++(ye [(((j:Int),a+1),d)]).1:List UInt8).length=11+d.length:=by
  rw [hpk];simp only [N1,List.length_cons,List.length_nil,xB];omega
 obtain⟨r,hre⟩:∃r:List UInt8,[109] ++(ye [(((j:Int),a+1),d)]).1=r:=⟨_,rfl⟩;rw [hre] at hrec;have hroom:=h.room;have hk:=J8 (n:=m) h.crashed h.isCut h.cap (d:=r) (by omega) (by omega) false;have hta:=h.ta;have hlr:(zG r).1.length=20+d.length:=by rw [yt (by omega)];omega
 obtain⟨m1,hm1⟩:∃m1,m1=({m with store:={m.store with log:=m.store.log++(zG r).1}} :zp):=⟨_,rfl⟩;rw [← hm1] at hk
 have hadd:zeL m.pool (((j:Int),a+1),d)=({m.pool with waits:=m.pool.waits++ [(((j:Int),a+1),(((j:Int),a+1),d))] },0):=by
  unfold zeL;have h1:zD ((j:Int),a+1) m.pool.waits=none:=by rw [h.pool.waits];exact QH j d a _ _ (.inr (by omega))
  rw [if_neg (by rw [hr];simp),if_neg (by rw [h1,h.pool.done a];simp;omega),if_neg (by rw [h.pool.waits,List.length_map,yG];omega),QG _ _ _ h1]
 have hb:zF m d=(jG (a+1) {m1 with acc:=m.acc++ [(((j:Int),a+1),d)] },(((j:Int),a+1),d),0):=by
  unfold zF;rw [if_neg (by rw [h.up];simp),h.ide,hal,if_neg (by rw [hr];simp),hre,hk,if_neg (by simp)]
 have hof:jG (a+1) {m1 with acc:=m.acc++ [(((j:Int),a+1),d)] } ={m1 with acc:=m.acc++ [(((j:Int),a+1),d)],pool:={m.pool with waits:=m.pool.waits++ [(((j:Int),a+1),(((j:Int),a+1),d))] },offered:=a+1} :=by
  have ho:m1.offered=a:=by rw [hm1];exact h.offered
  have hp:m1.pool=m.pool:=by rw [hm1]
  unfold jG;simp only;rw [ho,U6 (by omega),hal,Nat.sub_self];simp only [List.getElem?_cons_zero];rw [hp,hadd,if_pos rfl]
  cases a with
  |zero=>rfl
  |succ a=>
   unfold jG;simp only;rw [List.getElem?_eq_none (by simp;omega)]
 rw [hb];refine⟨rfl,?_⟩
 show Ve d k L room j t (a+1) (jG (a+1) _)
 rw [hof]
 refine⟨by rw [hm1];exact h.ide,by rw [hm1];exact h.bad,by rw [hm1];exact h.up,by rw [hm1];exact h.wanted,by rw [hm1];exact h.kno,by rw [hm1];exact h.vot,by rw [hm1];exact h.applied,by rw [hm1];exact h.loc,
  by rw [hm1];exact h.crashed,by rw [hm1];exact h.isCut,by rw [hm1];exact h.cap,?_,?_,rfl,⟨?_,h.pool.done⟩,by omega⟩
 ·rw [hm1]
  show(m.store.log++_).length+room<=_
  rw [N1,hlr];omega
 ·show m.acc++_=_
  rw [h.acc,J6,Nat.zero_add];rfl
 ·show m.pool.waits++_=_
  rw [h.pool.waits,show a+1 - t=(a - t)+1 by omega,J6,List.map_append,show t+(a - t)=a by omega];rfl
def upd(a:Nat->Nat)(i:Nat):Nat->Nat:=λj=>if i=j then a j+1 else a j
theorem Y4 {v:Int}{s:StD}{a:Nat->Nat}{n k G room:Nat}{tk:List Nat}{log2:List zy}{W:zf}{ns:List zp}(h:qO (λ_ _ _ _=>True) v s d a n k G (room+200) tk log2 W ns)(hn:n<=16)(hd:d.length<=100){i:Nat}(hi:i<n)(ha:∀j,a j<1000):
 (doW s W ⟨1,i,0,0,0,d⟩).2=0/\∃ns',qO (λ_ _ _ _=>True) v s d (upd a i) n k G room tk log2 (doW s W ⟨1,i,0,0,0,d⟩).1 ns':=by
 obtain⟨mi,hmi,hnode⟩:=h.node hi;obtain⟨cnt,log,hc⟩:=h.nodes;obtain⟨ss,ld,tr,hW,hq,hss,hgr, -⟩:=h.is;have hlen:=h.len;obtain⟨hb1,hb2⟩:=(hc i mi hmi).broadcast (by omega) hd (by have:=ha i;omega) (by have:=ha i;omega);have his:i<ss.length:=by omega
 obtain⟨si,hsi⟩:∃si,ss[i]?=some si:=⟨_,N3 his⟩;have hseat:jg W i=si:=by rw [hW.seat,hsi];rfl
 have hded:yZ W s ⟨1,i,0,0,0,d⟩=(setNode (xm W i) i (zF mi d).1,0):=by
  unfold yZ;simp only;rw [if_pos trivial,Int.toNat_natCast,hnode,hb1]
 have hV:IsW (setNode (xm W i) i (zF mi d).1) (ns.set i (zF mi d).1) (ss.set i {si with stale:=true}) ld [] tr:=by
  refine⟨by show W.nodes.set i _=_;rw [hW.nodes],?_,hW.leads,hW.notes,hW.hurt,hW.trace⟩
  show W.seats.set i {jg W i with stale:=true} =_
  rw [hseat,hW.seats]
 have hbut:xh (ss.set i {si with stale:=true}) i:=λk hk=>by rw [List.getElem?_set_ne (Ne.symm hk)];exact hq k
 have hT:=Qz hV hbut (by simpa using(by omega:i<ns.length)) (List.getElem?_set_self his) rfl (List.getElem?_set_self (by omega));rw [List.set_set] at hT
 have hdo:doW s W ⟨1,i,0,0,0,d⟩=(vZ (setNode (xm W i) i (zF mi d).1),0):=by
  unfold doW;rw [if_neg (by simp),if_neg (by rw [hW.nodes];simp;omega)];simp only;rw [hded];simp
 rw [hdo];refine⟨rfl,_,⟨⟨_,ld,_,hT,?_,by simpa using hss,λj=>?_,trivial⟩,by simpa using hlen,h.tks,⟨cnt,log,λj m hm=>?_⟩,λj=>?_⟩⟩
 ·exact QA hq i hsi (zF mi d).1
 ·by_cases hj:i=j
  ·subst hj
   rw [List.getElem?_set_self his];have:=hgr i;rw [hsi] at this;exact this
  ·rw [List.getElem?_set_ne hj];exact hgr j
 ·by_cases hj:i=j
  ·subst hj
   rw [List.getElem?_set_self (by omega)] at hm
   cases hm
   unfold upd;rw [if_pos rfl];exact hb2
  ·rw [List.getElem?_set_ne hj] at hm
   unfold upd;rw [if_neg hj];have hx:=hc j m hm;exact⟨hx.ide,hx.bad,hx.up,hx.wanted,hx.kno,hx.vot,hx.applied,hx.loc,hx.crashed,hx.isCut,hx.cap,by have:=hx.room;omega,hx.acc,hx.offered,hx.pool,hx.ta⟩
 ·unfold upd
  have:=ha j
  split<;>omega
theorem zh4(v:Int)(s:StD)(d:List UInt8)(n:Nat):qO (λ_ _ _ _=>True) v s d (λ_=>0) n 0 0 262144 (List.replicate 16 0) [] (qW n v 262144 s) ((List.range n).map λ(i:Nat)=>zgd i v 262144 [] s):=by
 refine⟨⟨List.replicate n yV,[],[],⟨rfl,rfl,rfl,rfl,rfl,rfl⟩,λi=>?_,by simp,λj=>?_,trivial⟩,by simp,by simp,⟨0,[],λj m hm=>?_⟩,λj=>by omega⟩
 ·rw [List.getElem?_replicate];split<;>exact⟨rfl,rfl⟩
 ·rw [List.getElem?_replicate];split<;>exact N0 _
 ·rw [List.getElem?_map] at hm
  obtain⟨i,hi,rfl⟩:=Option.map_eq_some_iff.1 hm;obtain⟨hil,rfl⟩:=N6.1 hi;rw [List.getElem_range]
  have ht:xf (List.replicate 16 0) j=0:=by
   unfold xf;rw [List.getElem?_replicate];split<;>rfl
  rw [ht];exact⟨rfl,rfl,rfl,rfl,λq _=>rfl,λq _=>rfl,rfl,rfl,rfl,rfl,rfl,by show 0+262144<=_;omega,rfl,rfl,⟨rfl,λc=>by show(zD _ []).isSome=_;simp [zD]⟩,N0 _⟩
def Vf(s:StD)(d:List UInt8)(W:zf)(l:List Nat):zf:=l.foldl (λW (i:Nat)=>(doW s W ⟨1,i,0,0,0,d⟩).1) W
theorem YE(s:StD)(d:List UInt8)(W:zf)(l:List Nat)(i:Nat):Vf s d W (l++ [i])=(doW s (Vf s d W l) ⟨1,i,0,0,0,d⟩).1:=by
 unfold Vf;rw [List.foldl_append];rfl
def Ji(l:List Nat):Nat->Nat:=λj=>l.count j
theorem zgb(l:List Nat)(i:Nat):Ji (l++ [i])=upd (Ji l) i:=by
 funext j
 unfold Ji upd;rw [List.count_append]
 by_cases h:i=j
 ·subst h;rw [if_pos rfl];simp
 ·rw [if_neg h,List.count_singleton]
  have:(i==j)=false:=by simpa using h
  rw [this];rfl
theorem zh5 {n:Nat} :∀(l:List Nat),(∀i∈l,i<n)->XF (Ji l) n=l.length:=by
 intro l
 induction l with
 |nil=>
  intro _
  have:∀m,XF (Ji []) m=0:=by
   intro m
   induction m with
   |zero=>rfl
   |succ m ih=>unfold XF;rw [ih];rfl
  exact this n
 |cons i l ih=>
  intro h
  have h1:=zaB (f:=Ji l) (g:=Ji (i::l)) (i:=i) (c:=1) (by unfold Ji;rw [List.count_cons];simp) (λj hj=>by
   unfold Ji;rw [List.count_cons];have:(i==j)=false:=by simpa using λe=>hj e.symm
   rw [this];rfl) n (h i (List.mem_cons_self ..))
  rw [h1,ih (λj hj=>h j (U7 _ hj)),List.length_cons]
theorem zeq {P:List Nat->Prop}(h0:P [])(h1:∀l i,P l->P (l++ [i])):∀l,P l:=λl=>by
 have:∀k,k<=l.length->P (l.take k):=by
  intro k
  induction k with
  |zero=>intro _;simpa using h0
  |succ k ih=>
   intro hk;rw [List.take_add_one,N3 (by omega)];exact h1 _ _ (ih (by omega))
 have:=this l.length (N0 _)
 rwa [List.take_length] at this
theorem XD {v:Int}{s:StD}{n:Nat}(hn:n<=16)(hd:d.length<=100):∀(l:List Nat),(∀i∈l,i<n)->l.length<=100->∃ns,qO (λ_ _ _ _=>True) v s d (Ji l) n 0 0 (262144 - 200*l.length) (List.replicate 16 0) [] (Vf s d (qW n v 262144 s) l) ns:=by
 refine zeq ?_ ?_
 ·intro _ _
  exact⟨_,zh4 v s d n⟩
 ·intro l i ih hl hlen
  simp only [N1,U2] at hlen⊢;obtain⟨ns,hC⟩:=ih (λj hj=>hl j (List.mem_append.2 (.inl hj))) (by omega);rw [show 262144 - 200*l.length=(262144 - 200*(l.length+1))+200 by omega] at hC;obtain⟨-,ns',hC'⟩:=Y4 hC hn hd (hl i (by simp)) (λj=>by have:=List.count_le_length (a:=j) (l:=l);unfold Ji;omega);rw [YE,zgb];exact⟨ns',hC'⟩
theorem zkw {v:Int}{s:StD}{n:Nat}(hn:n<=16)(hd:d.length<=100){l:List Nat}{i:Nat}(hl:∀j∈l,j<n)(hi:i<n)(hlen:l.length<100):(doW s (Vf s d (qW n v 262144 s) l) ⟨1,i,0,0,0,d⟩).2=0:=by
 obtain⟨ns,hC⟩:=XD (v:=v) (s:=s) hn hd l hl (by omega);rw [show 262144 - 200*l.length=(262144 - 200*(l.length+1))+200 by omega] at hC;exact(Y4 hC hn hd hi (λj=>by have:=List.count_le_length (a:=j) (l:=l);unfold Ji;omega)).1
theorem zh6 {v:Int}{s:StD}{n:Nat}(hv:known v=true)(hn:n<=16)(hd:d.length<=100){l:List Nat}(hl:∀j∈l,j<n)(hlen:l.length<=50){r:Nat}(hr:l.length<r):
 ∃g W',YB s r g (Vf s d (qW n v 262144 s) l) W' true/\zb8 (λ_ _ _ _=>True) v s d (Ji l) n 0 W'/\g<=l.length*1296:=by
 obtain⟨ns,hC⟩:=XD (v:=v) (s:=s) hn hd l hl (by omega);have ht:∀j,xf (List.replicate 16 0) j=0:=λj=>by unfold xf;rw [List.getElem?_replicate];split<;>rfl
 have hpe:zjH (Ji l) (List.replicate 16 0) n=l.length:=by
  unfold zjH;rw [ZE (g:=Ji l) n (λj _=>by rw [ht];rfl)];exact zh5 l hl
 have hz:XF (xf (List.replicate 16 0)) n=0:=by
  have:∀m,XF (xf (List.replicate 16 0)) m=0:=by
   intro m
   induction m with
   |zero=>rfl
   |succ m ih=>unfold XF;rw [ih,ht]
  exact this n
 exact zb9 (λ_ _ _ _ _ _ _ _ _ _ _ _=>trivial) hv hn hd r l.length _ ⟨⟨0,0,_,_,[],ns,hC,⟨by rw [hz];rfl,λi _ _=>by rw [ht];rfl⟩,hpe,by omega,by omega,by omega⟩⟩ hr
theorem zb8.logs {P:zh2}{v:Int}{s:StD}{a:Nat->Nat}{n:Nat}{W:zf}(h:zb8 P v s d a n 0 W):∃L:zR,L.log.length=XF a n/\(∀i,i<n->(∀j,j<n->j≠i->a j=0)->L.log=jD i d 0 (a i))/\W.nodes.length=n/\∀i,i<n->(zr W i).loc=L:=by
 obtain⟨k,G,room,tk,log2,ns,hC,hL,hp, -⟩:=h.ex;obtain⟨cnt,log,hc⟩:=hC.nodes
 have heq:∀j,j<n->xf tk j=a j:=λj hj=>by
  obtain⟨m,hm, -⟩:=hC.node hj;have h1:a j - xf tk j=0:=J9 n hp j hj;have h2:=(hc j m hm).ta;omega
 refine⟨ZI v s tk cnt log log2,?_,λi hi h0=>?_,hC.wn,λi hi=>?_⟩
 ·show log2.length=_
  rw [hL.len];exact ZE n heq
 ·show log2=_
  rw [hL.one i hi h0,heq i hi]
 ·obtain⟨m,hm,hn⟩:=hC.node hi
  rw [hn];exact(hc i m hm).loc
end
section
open Go Go.RowKit Go.Shelf Go.Extern.Stop Go.Stop Go.Extern
attribute [local go_sem] Oper.semAt_some zv zm
def tS0:zf:=qW 2 2 65536 (2,0,[98])
def tS1:zf:=(doW (2,0,[98]) tS0 ⟨1,0,0,0,0,[120]⟩).1
def tS2:zf:=((zfY (2,0,[98]) 200 20 tS1).getD (tS1,false)).1
theorem nB2:zt 2=(2,0,[98]):=by kernel_rfl
theorem tF2:zfY (2,0,[98]) 200 20 tS1=some (tS2,true):=by kernel_rfl
theorem tF4:(zr tS2 1).loc.log.length=1:=by kernel_rfl
theorem tF5:tS2.nodes.length=2:=by kernel_rfl
theorem tF6:(doW (2,0,[98]) tS0 ⟨1,0,0,0,0,[120]⟩).2=0:=by kernel_rfl
variable {t:List Nat}{w W:World}{B:Nat}{K:WK}{S:zf}{ow:Own}{a:Addr}{v:Int}{k L:Nat}
theorem Vl.logAt(h:Vl t w B K S ow W)(hG:zu v k L S){i:Nat}(hi:i<S.nodes.length):
 ∃b,Calls prog 16 #[.pointer (some ⟨B,0,none⟩),.int .i64 (i:Nat)] W λe W1=>e=.returned (.pointer (some ⟨b,0,none⟩))/\zq t ow W ow W1/\Vl t w B K (zdr S i) ow W1/\∃lb,
  (Calls prog 21 #[.pointer (some ⟨b,0,none⟩)] W1 λe W2=>e=.returned (.pointer (some ⟨lb,0,none⟩))/\W2=W1)/\
  Calls prog 22 #[.pointer (some ⟨lb,0,none⟩)] W1 λe W2=>∃v',e=.returned v'/\Row W2 78 3 v' (zr S i).loc.log.length ((zr S i).loc.log.flatMap zh)/\Below W1.heap.size W1 W2/\(∀g,v'.ownBlock=some g->W1.heap.size<=g):=by
 have h16:=hG.n0.2;obtain⟨tv,lp,hI⟩:=h.is;obtain⟨b,hnb,q⟩:=zhK i hi h16 W hI;refine⟨b,q.mono ?_⟩;rintro e W1⟨rfl,hs1,hI1⟩;have hg1:=(hG.lent hi).node (i:=i) hi;obtain⟨b',hnb',px,sb,lb,pb,av,hN⟩:=hI1.node (by omega) hg1.1;obtain rfl:b'=b:=by rw [hnb] at hnb';exact(Option.some.inj hnb').symm
 have hfew:=(hG.node hi).2.few;exact⟨rfl,hs1,⟨h.st.trans hs1,tv,lp,hI1⟩,lb,Yu W1 hN.blk,QT lb _ (t++ [i] ++ [2]) _ W1 hN.lo (by show(zr S i).loc.log.length<=_;omega)⟩
theorem zgc(a:Addr)(w:World)(he:jE w a):Calls prog 8 #[] w λe w'=>e=.returned (.bool true)/\Below w.heap.size w w':=by
 have hnew:=zei a 2 (by omega) 2 65536 (by decide) (by omega) (by omega) [1] (λ_=>[]) w he;have hg0:zu 2 0 0 (qW 2 2 65536 (zt 2)):=zbP (by omega) (by omega) (by omega);have hg1:=hg0.doesA (by omega) ⟨1,0,0,0,0,[120]⟩ (by simp) (.inl rfl)
 have hd2:(doW (zt 2) (qW 2 2 65536 (zt 2)) ⟨1,0,0,0,0,[120]⟩)=(tS1,0):=by
  rw [nB2];exact Prod.ext rfl tF6
 rw [hd2] at hg1;simp only at hg1;obtain⟨f,hf,hF⟩:=zek _ _ _ _ _ _ tF2;rw [← nB2] at hF;have hg2:=hF.good rfl hg1 (by omega);replace hnew:=hid hnew;replace hF:=hid hF;replace hg0:=hid hg0;replace hg1:=hid hg1;replace hg2:=hid hg2;replace hd2:=hid hd2
 go_enter func8,ntmps8
 go_wp2_with fail
 refine hnew.out.mono ?_;rintro e w1⟨B,K,ow1,rfl,hs1,hb1,hW1, -⟩;have h1:Vl [1] w B K (qW 2 2 65536 (zt 2)) ow1 w1:=⟨hs1,hW1⟩;have q1:=h1.doesA (by simp) he hg0.out (by omega) (by omega) (by decide) ⟨1,0,0,0,0,[120]⟩ ⟨by simp,by simp,by simp⟩ (.inl rfl) (λ_=>⟨by simp,by show(0:Int)<((qW 2 2 65536 (zt 2)).nodes.length:Int);simp [qW]⟩);rw [hd2.out] at q1;clear h1 hs1 hW1 hb1;go_wp2_with fail
 refine q1.mono ?_;rintro e w2⟨rfl,ow2,h2⟩;have q2:=h2.fair (by simp) he hg1.out (by decide) 20 (by omega) hF.out (by omega) (by omega);clear q1 h2;go_wp2_with fail
 refine q2.mono ?_;rintro e w3⟨rfl,ow3,h3⟩;clear q2;obtain⟨b,q3⟩:=h3.logAt hg2.out (i:=1) (by rw [tF5];omega);rw [tF4] at q3;replace h3:=hid h3;go_wp2_with fail
 refine q3.mono ?_;rintro e w4⟨rfl, -,h4,lb,q4,q5⟩;have hb4:=h4.bel (by simp);clear q3 h4;replace q5:=hid q5;go_wp2_with fail
 refine q4.mono ?_;rintro e w5⟨rfl,hw5⟩;obtain rfl:=hw5.symm;go_wp2_with fail
 refine q5.out.mono ?_;rintro e w6⟨lv,rfl,hrow,hb6, -⟩;obtain⟨la,lc,rfl⟩:=hrow.wideV.shape;go_wp2;go_ret
 exact⟨rfl,zg hb4 hb6⟩
theorem zjv {n:Nat}{lx:List zy}(h:Vl [1] w B K S ow W)(hG:zu v k L S)(hn:S.nodes.length=n)(hl:∀i,i<n->(zr S i).loc.log=lx)(hlx:lx.length<=100000):
 Calls prog 12 #[.pointer (some ⟨B,0,none⟩),.int .i64 (n:Nat),.int .i64 (lx.length:Nat)] W λe w'=>e=.returned (.bool true)/\∃S' ow',S'.trace=S.trace/\Vl [1] w B K S' ow' w':=by
 have hn16:=hG.n0;rw [hn] at hn16;replace hl:=hid hl;replace hn:=hid hn
 go_enter func12,ntmps12
 go_wp2
 go_loopw [7] (λp7 wr=>∃(i:Nat)(S':zf)(ow':Own),p7=.int .i64 (i:Nat)/\i<=n/\S'.nodes=S.nodes/\S'.trace=S.trace/\zu v k L S'/\Vl [1] w B K S' ow' wr) (λp7 _=>n - (intOf p7).toNat)
 case atStart=>exact⟨0,S,ow,rfl,Nat.zero_le _,rfl,rfl,hG,h⟩
 case round=>
  obtain⟨i,S2,ow2,rfl,hi,hS2,hT2,hG2,h2⟩:=hrel;clear h hG
  by_cases hlt:i<n
  ·have t1:decide ((i:Int)<(n:Int))=true:=by simpa using hlt
   have t2:((lx.length:Int) !=(lx.length:Int))=false:=by simp
   have hwk:IntKind.i64.wrap ((i:Int)+1)=(i:Int)+1:=by rw [N8];omega
   have hlog:∀j,j<n->(zr S2 j).loc.log=lx:=λj hj=>by
    have:zr S2 j=zr S j:=by unfold zr;rw [hS2]
    rw [this];exact hl.out j hj
   have hn2:S2.nodes.length=n:=by rw [hS2];exact hn.out
   have hi2:i<S2.nodes.length:=by omega
   obtain⟨b,q1⟩:=h2.logAt hG2 hi2;rw [hlog i hlt] at q1;have hG3:=hG2.lent hi2;have hG4:=hG3.lent (i:=0) (show 0<S2.nodes.length by omega);have hl0:(zr (zdr S2 i) 0).loc.log=lx:=hlog 0 (by omega);have h02:0<(zdr S2 i).nodes.length:=(show 0<S2.nodes.length by omega);replace hlog:=hid hlog;replace hG2:=hid hG2;replace hG3:=hid hG3;replace hG4:=hid hG4;replace hl0:=hid hl0;replace h02:=hid h02;replace hn2:=hid hn2;replace hi2:=hid hi2;replace hS2:=hid hS2;replace hT2:=hid hT2;replace h2:=hid h2;go_wp2_with fail
   refine q1.mono ?_;rintro e w1⟨rfl, -,h1,lb,q2,q3⟩;clear q1;replace h1:=hid h1;replace q3:=hid q3;go_wp2_with fail
   refine q2.mono ?_;rintro e w2⟨rfl,hw2⟩;obtain rfl:=hw2.symm;clear q2;go_wp2_with fail
   refine q3.out.mono ?_;rintro e w3⟨lv,rfl,hrow,hb3,hlv⟩;obtain⟨la,lc,rfl⟩:=hrow.wideV.shape;have h3:=h1.out.below hb3;obtain⟨b0,q4⟩:=h3.logAt hG3.out (i:=0) h02.out;rw [hl0.out] at q4;clear q3;replace h3:=hid h3;replace hrow:=hid hrow;replace hlv:=hid hlv;replace hb3:=hid hb3;go_wp2_with fail
   refine q4.mono ?_;rintro e w4⟨rfl,hst4,h4,lb0,q5,q6⟩;have hrow4:=hrow.out.kept (w':=w4) (λg hg=>hst4.block (hrow.out.lt hg) (by rw [Own.cut_new (hlv.out g hg)];exact zj (by simp)));clear q4;replace hst4:=hid hst4;replace hrow4:=hid hrow4;replace h4:=hid h4;replace q6:=hid q6;go_wp2_with fail
   refine q5.mono ?_;rintro e w5⟨rfl,hw5⟩;obtain rfl:=hw5.symm;clear q5;go_wp2_with fail
   refine q6.out.mono ?_;rintro e w6⟨lv6,rfl,hrow6,hb6, -⟩;obtain⟨la6,lc6,rfl⟩:=hrow6.wideV.shape;have q7:=zcJ _ _ lx lx w6 (hrow4.out.below hb6).src hrow6.src (by omega) (by omega);rw [decide_eq_true rfl] at q7;clear q6;replace hrow6:=hid hrow6;replace hb6:=hid hb6;go_wp2_with fail
   refine q7.mono ?_;rintro e w7⟨rfl,hb7⟩;go_wp2
   go_roundw
   case rel=>exact⟨i+1,zdr (zdr S2 i) 0,_,by simp,by omega,hS2.out,hT2.out,hG4.out,(h4.out.below hb6.out).below hb7⟩
   case measure=>simp [intOf];omega
  ·obtain rfl:i=n:=by omega
   have t1:decide ((i:Int)<(i:Int))=false:=by simp
   go_wp2;go_ret
   exact⟨rfl,S2,ow2,hT2,h2⟩
def zk4(n:Nat)(x:Int):Nat:=((IntKind.u64.wrap x).tmod (n:Int)).toNat
def Zo(n:Nat)(xs:List Int):List Nat:=(xs.take 30).map (zk4 n)
theorem zh7 {n:Nat}(hn:1<=n)(x:Int):(IntKind.u64.wrap x).tmod (n:Int)=(zk4 n x:Int)/\zk4 n x<n:=by
 unfold zk4;have h0:0<=IntKind.u64.wrap x:=by rw [IntKind.wrap_u64];omega
 rw [Int.tmod_eq_emod_of_nonneg h0];have h1:=Int.emod_nonneg (IntKind.u64.wrap x) (show(n:Int)≠0 by omega);have h2:=Int.emod_lt_of_pos (IntKind.u64.wrap x) (show(0:Int)<n by omega);omega
theorem zer {n:Nat}(hn:1<=n)(xs:List Int):∀i∈Zo n xs,i<n:=λi hi=>by
 obtain⟨x, -,rfl⟩:=List.mem_map.1 hi;exact(zh7 hn x).2
theorem zca(n:Nat)(xs:List Int):(Zo n xs).length=min 30 xs.length:=by unfold Zo;rw [List.length_map,N7]
theorem QI {v:Int}{n:Nat}(hn:1<=n/\n<=16){d:List UInt8}(hd:d.length<=100):∀(l:List Nat),l.length<=100->zu v l.length (16*l.length) (Vf (zt v) d (qW n v 262144 (zt v)) l):=by
 refine zeq ?_ ?_
 ·intro _
  exact zbP hn (by omega) (by omega)
 ·intro l i ih hl
  simp only [N1,U2] at hl⊢;rw [YE,Nat.mul_add];exact(ih (by omega)).doesA (by omega) ⟨1,i,0,0,0,d⟩ (by simp only;omega) (.inl rfl)
def zcb(w:World)(la:Option Addr)(xs:List Int):Prop:=∀(i:Nat) x,xs[i]?=some x->∃b off,la=some ⟨b,off,none⟩/\w.cell? ⟨b,off+i,none⟩=some (.int .i64 x)
theorem zcb.below {w w':World}{la:Option Addr}{xs:List Int}(h:zcb w la xs)(hb:Below w.heap.size w w'):zcb w' la xs:=λi x hx=>by
 obtain⟨b,off,e,hc⟩:=h i x hx;exact⟨b,off,e,(hb.cell (jH hc)).trans hc⟩
theorem zjw {n:Nat}(hn:1<=n/\n<=5)(hv:known v=true)(xs:List Int)(la:Option Addr)(lc:Nat)(hsrc:zcb w la xs)(hxs:xs.length<=9223372036854775807)(he:jE w a)(h:Vl [1] w B K (qW n v 262144 (zt v)) ow W):
 Calls prog 10 #[.pointer (some ⟨B,0,none⟩),.int .i64 (n:Nat),.slice la xs.length lc] W (zau [1] w B K (Vf (zt v) [109] (qW n v 262144 (zt v)) (Zo n xs)) (.bool true)):=by
 have hgood:∀l:List Nat,l.length<=100->zu v l.length (16*l.length) (Vf (zt v) [109] (qW n v 262144 (zt v)) l):=QI (by omega) (by simp);have hok:∀(l:List Nat)(i:Nat),(∀j∈l,j<n)->i<n->l.length<100->(doW (zt v) (Vf (zt v) [109] (qW n v 262144 (zt v)) l) ⟨1,i,0,0,0,[109]⟩).2=0:=λl i h1 h2 h3=>zkw (by omega) (by simp) h1 h2 h3
 have hlen:=zca n xs;have hlt':=zer hn.1 xs;replace hgood:=hid hgood;replace hok:=hid hok;replace hlen:=hid hlen;replace hlt':=hid hlt';replace hsrc:=hid hsrc
 go_enter func10,ntmps10
 go_wp2
 go_loopw [7] (λp7 wr=>∃(k:Nat)(ow':Own),p7=.int .i64 (k:Nat)/\k<=30/\k<=xs.length/\Vl [1] w B K (Vf (zt v) [109] (qW n v 262144 (zt v)) ((Zo n xs).take k)) ow' wr) (λp7 _=>xs.length - (intOf p7).toNat)
 case atStart=>exact⟨0,ow,rfl,by omega,Nat.zero_le _,h⟩
 case round=>
  obtain⟨k,ow2,rfl,hk30,hk,h2⟩:=hrel;clear h
  by_cases hlt:k<xs.length/\k<30
  ·have t1:decide ((k:Int)<(xs.length:Int))=true:=by simp;omega
   have t2:decide ((k:Int)<30)=true:=by simp;omega
   have hwk:IntKind.i64.wrap ((k:Int)+1)=(k:Int)+1:=by rw [N8];omega
   have y0:(0:Int)<=(k:Int):=by omega
   have y1:(k:Int)<(xs.length:Int):=by omega
   have hwn:IntKind.u64.wrap (n:Int)=(n:Int):=by rw [IntKind.wrap_u64];omega
   obtain⟨x,hx⟩:∃x,xs[k]?=some x:=⟨_,N3 hlt.1⟩;have hbw:=h2.bel (by simp);obtain⟨b,off,rfl,c0⟩:=(hsrc.out.below hbw) k x hx;obtain⟨hm1,hm2⟩:=zh7 (n:=n) (by omega) x;obtain⟨i,hi⟩:∃i,zk4 n x=i:=⟨_,rfl⟩;rw [hi] at hm1 hm2;have hwi:IntKind.i64.wrap (i:Int)=(i:Int):=by rw [N8];omega
   have hn0:((n:Int)==0)=false:=by simp;omega
   have htk:(Zo n xs).take k++ [i]=(Zo n xs).take (k+1):=by
    rw [List.take_add_one]
    congr 1
    unfold Zo;rw [List.getElem?_map,List.getElem?_take_of_lt hlt.2,hx,← hi];rfl
   have hgk:=hgood.out ((Zo n xs).take k) (by rw [N7,hlen.out];omega);have hok1:=hok.out ((Zo n xs).take k) i (λj hj=>hlt'.out j (List.mem_of_mem_take hj)) hm2 (by rw [N7,hlen.out];omega);have hlk:((Zo n xs).take k).length=k:=by rw [N7,hlen.out];omega
   rw [hlk] at hgk;have hsn:=YE (zt v) [109] (qW n v 262144 (zt v)) ((Zo n xs).take k) i;rw [htk] at hsn
   have hsl:(Vf (zt v) [109] (qW n v 262144 (zt v)) ((Zo n xs).take k)).nodes.length=n:=by
    obtain⟨ns,hC⟩:=XD (v:=v) (s:=zt v) (d:=[109]) (n:=n) (by omega) (by simp) ((Zo n xs).take k) (λj hj=>hlt'.out j (List.mem_of_mem_take hj)) (by rw [hlk];omega);exact hC.wn
   have q1:=h2.doesA (by simp) he hgk (by omega) (by omega) hv ⟨1,i,0,0,0,[109]⟩ ⟨by simp,by simp,by simp⟩ (.inl rfl) (λ_=>⟨by simp,by rw [hsl];simp only;omega⟩);rw [← hsn,hok1] at q1;replace hgk:=hid hgk;replace hok1:=hid hok1;replace hsn:=hid hsn;replace hsl:=hid hsl;replace htk:=hid htk;replace hlk:=hid hlk;replace hx:=hid hx;replace hi:=hid hi;replace h2:=hid h2;go_wp2_with fail
   refine q1.mono ?_;rintro e w1⟨rfl,ow3,h3⟩;go_wp2
   go_roundw
   case rel=>exact⟨k+1,ow3,by simp,by omega,by omega,h3⟩
   case measure=>simp [intOf];omega
  ·have hke:(Zo n xs).take k=Zo n xs:=List.take_of_length_le (by rw [hlen.out];omega)
   rw [hke] at h2
   by_cases h3:k<xs.length
   ·have t1:decide ((k:Int)<(xs.length:Int))=true:=by simpa using h3
    have t2:decide ((k:Int)<30)=false:=by simp;omega
    go_wp2;go_ret
    exact⟨rfl,ow2,h2⟩
   ·have t1:decide ((k:Int)<(xs.length:Int))=false:=by simp;omega
    go_wp2;go_ret
    exact⟨rfl,ow2,h2⟩
end
open Go Go.RowKit Go.Shelf Go.Extern.Stop Go.Stop Go.Extern
attribute [local go_sem] Oper.semAt_some zv zm
theorem zkx {w:World}{v:Value}{l:List Int}(h:Yf w v 1 (λx=>[.int .i64 x]) l):∃a c,v=.slice a l.length c/\zcb w a l:=by
 obtain⟨a,c,e,hc⟩:=h.shape (by omega) (λy=>⟨_,rfl⟩);refine⟨a,c,e,λi x hx=>?_⟩;obtain⟨b,off,e1,h1⟩:=hc i x hx;have:=h1 0 (by omega);rw [Nat.mul_one,Nat.add_zero] at this;exact⟨b,off,e1,this⟩
theorem Vg(a:Addr)(n v:Int)(xs:List Int)(lv:Value)(w:World)(he:jE w a)(hin:Yf w lv 1 (λx=>[.int .i64 x]) xs/\xs.length<=9223372036854775807):
 Calls prog 3 #[.int .i64 n,.int .i64 v,lv] w λe w'=>e=.returned (.bool true)/\Below w.heap.size w w':=by
 have hsh:=zgc a w he;have hel:=he.lt;obtain⟨hin1,hxs⟩:=hin;obtain⟨la,lc,rfl,hsrc⟩:=zkx hin1;clear hin1;replace hsh:=hid hsh;replace hsrc:=hid hsrc
 by_cases h1:n<1
 ·have t1:decide (n<1)=true:=by simpa using h1
  go_enter func3,ntmps3
  go_wp2_with fail
  refine hsh.out.mono ?_;rintro e w1⟨rfl,hb1⟩;go_wp2;go_ret
  exact⟨rfl,hb1⟩
 by_cases h2:5<n
 ·have t1:decide (n<1)=false:=by simpa using h1
  have t2:decide (5<n)=true:=by simpa using h2
  go_enter func3,ntmps3
  go_wp2_with fail
  refine hsh.out.mono ?_;rintro e w1⟨rfl,hb1⟩;go_wp2;go_ret
  exact⟨rfl,hb1⟩
 by_cases h3:v<1
 ·have t1:decide (n<1)=false:=by simpa using h1
  have t2:decide (5<n)=false:=by simpa using h2
  have t3:decide (v<1)=true:=by simpa using h3
  go_enter func3,ntmps3
  go_wp2_with fail
  refine hsh.out.mono ?_;rintro e w1⟨rfl,hb1⟩;go_wp2;go_ret
  exact⟨rfl,hb1⟩
 by_cases h4:3<v
 ·have t1:decide (n<1)=false:=by simpa using h1
  have t2:decide (5<n)=false:=by simpa using h2
  have t3:decide (v<1)=false:=by simpa using h3
  have t4:decide (3<v)=true:=by simpa using h4
  go_enter func3,ntmps3
  go_wp2_with fail
  refine hsh.out.mono ?_;rintro e w1⟨rfl,hb1⟩;go_wp2;go_ret
  exact⟨rfl,hb1⟩
 have t1:decide (n<1)=false:=by simpa using h1
 have t2:decide (5<n)=false:=by simpa using h2
 have t3:decide (v<1)=false:=by simpa using h3
 have t4:decide (3<v)=false:=by simpa using h4
 obtain⟨m,rfl⟩:∃m:Nat,n=m:=⟨n.toNat,by omega⟩;have hm:1<=m/\m<=5:=by omega
 have hv:known v=true:=by simp [known];omega
 have hnew:=λW hW=>zei a m (by omega) v 262144 hv (by omega) (by omega) [1] (λ_=>[]) W hW
 have hal:=zca m xs;have hat:=zer hm.1 xs;have hG:=QI (v:=v) (n:=m) (d:=[109]) (by omega) (by simp) (Zo m xs) (by omega);obtain⟨g,S',hF,hC,hgl⟩:=zh6 (v:=v) (s:=zt v) (n:=m) (d:=[109]) hv (by omega) (by simp) hat (by omega) (r:=1000) (by omega);have hG':=hF.good rfl hG (by omega);obtain⟨L,l1, -,l3,l4⟩:=hC.logs;rw [zh5 _ hat,hal] at l1;have hlx:((L.log.length:Nat):Int)=min (xs.length:Int) 30:=by rw [l1];omega
 have hsent:=λW w0 B K ow (h:Vl [1] w0 B K (qW m v 262144 (zt v)) ow W) hs he0=>zjw (w:=w0) (a:=a) (W:=W) hm hv xs la lc hs hxs he0 h
 have hfair:=λW w0 B K ow (h:Vl [1] w0 B K _ ow W) he0=>h.fair (a:=a) (by simp) he0 hG hv 1000 (by omega) hF (by omega) (by omega)
 have hall:=λW w0 B K ow (h:Vl [1] w0 B K S' ow W)=>zjv h hG' l3 (lx:=L.log) (λi hi=>by rw [l4 i hi]) (by omega)
 rw [hlx] at hall;clear hG' hC l1 l3 l4 hlx;replace hnew:=hid hnew;replace hsent:=hid hsent;replace hfair:=hid hfair;replace hall:=hid hall;replace hG:=hid hG;replace hF:=hid hF;replace hat:=hid hat;replace hal:=hid hal;replace hv:=hid hv
 go_enter func3,ntmps3
 go_wp2_with fail
 refine hsh.out.mono ?_;rintro e w1⟨rfl,hb1⟩;have he1:=he.below hb1 hel;have hsrc1:=hsrc.out.below hb1;replace hsrc1:=hid hsrc1;replace hb1:=hid hb1;go_wp2_with fail
 refine(hnew.out _ he1).mono ?_;rintro e w2⟨B,K,ow2,rfl,hs2, -,hW2, -⟩;have q2:=hsent.out w2 w1 B K ow2 ⟨hs2,hW2⟩ hsrc1.out he1;clear hs2 hW2;go_wp2_with fail
 refine q2.mono ?_;rintro e w3⟨rfl,ow3,h3⟩;have q3:=hfair.out w3 w1 B K ow3 h3 he1;clear q2 h3;go_wp2_with fail
 refine q3.mono ?_;rintro e w4⟨rfl,ow4,h4⟩;have q4:=hall.out w4 w1 B K ow4 h4;clear q3 h4;go_wp2_with fail
 refine q4.mono ?_;rintro e w5⟨rfl,S5,ow5, -,h5⟩;have hb5:=h5.bel (by simp);clear h5;go_wp2;go_ret
 exact⟨rfl,zg hb1.out hb5⟩
