/- PARTS OF THE PROOF. -/
import Derived.Test.YtofppfoioodblaaGreatDoorTT09
import Derived.Test.YtofppfoioodblaaGreatDoorTT29
set_option maxRecDepth 8000
set_option maxHeartbeats 4000000
open Go.Proofs.Tryz
namespace Go.Proofs.YtofppfoioodblaaGreatDoor
section
open Go Go.RowKit Go.Shelf Go.Extern.Stop Go.Stop Go.Extern
attribute [local go_sem] Oper.semAt_some zv zm
def okV(r:List UInt8×Bool):Value:=.tuple #[.string (bs r.1),.bool r.2]
theorem Yx(e:jy)(mv:Value)(w:World)(hm:x8 w mv e.msgs)(hl:e.msgs.length<=1073741824):Calls prog 141 #[qV e mv] w λr w'=>r=.returned (okV (qU e))/\Below w.heap.size w w':=by
 have hen:=λW h=>Ye e mv W h hl
 have hm1:=Src.below hm ((N2 w.heap.size w).alloc (N0 _) (.cells #[.int .i64 e.kind,.int .u32 e.epoch,.int .i64 e.ver,mv] 241));unfold qU okV;obtain⟨⟨x,er⟩,hx⟩:∃q,jv e=q:=⟨_,rfl⟩;rw [hx] at hen⊢;unfold qV at hen⊢;simp only at hen⊢
 obtain⟨ma,mn,mc,rfl⟩:∃a n c,mv=.slice a n c:=by
  rcases hm.2 with⟨rfl, -⟩|⟨b,off,cap,rfl, -⟩
  ·exact⟨_,_,_,rfl⟩
  ·exact⟨_,_,_,rfl⟩
 replace hen:=hid hen;replace hx:=hid hx
 by_cases her:er=0
 ·subst her
  go_enter func141,ntmps141
  go_wp2_with fail
  refine(hen.out _ hm1).mono ?_;rintro r w1⟨rfl,hb1⟩;go_wp2;go_ret2
  exact⟨rfl,pbx⟩
 ·have t1:(er==0)=false:=by simpa using her
  rw [show decide (er=0)=false by simpa using her];replace her:=hid her
  go_enter func141,ntmps141
  go_wp2_with fail
  refine(hen.out _ hm1).mono ?_;rintro r w1⟨rfl,hb1⟩;go_wp2;go_ret2
  exact⟨rfl,pbx⟩
theorem JL {W:World}{l:List zy}{b off cap:Nat}(h:Src W (.slice (some ⟨b,off,none⟩) l.length cap) 3 l.length (l.flatMap zh)){k:Nat}(hk:k<=l.length):x8 W (.slice (some ⟨b,off,none⟩) k cap) (l.take k):=by
 have hlen:(l.take k).length=k:=by rw [N7];omega
 rcases h.2 with⟨h, -⟩|⟨b',off',cap',h,hc,hr⟩
 ·cases h
 ·cases h
  show Src W _ 3 (l.take k).length _
  rw [hlen];refine⟨?_,.inr ⟨b,off,cap,rfl,by omega,λj u hu=>?_⟩⟩
  ·rw [zaN,hlen]
  ·refine hr j u ?_
   have hap:l.flatMap zh=(l.take k).flatMap zh++(l.drop k).flatMap zh:=by rw [← U5,List.take_append_drop]
   rw [hap,U8 (N6.1 hu).1];exact hu
theorem JM(era:qZ)(l:List zy){k:Nat}(hk:k<l.length)(r:List UInt8×Bool):jT era (l.take k) (l.drop k) r=if(qU ⟨1,era.1,0,l.take (k+1)⟩).2 then jT era (l.take (k+1)) (l.drop (k+1)) (qU ⟨1,era.1,0,l.take (k+1)⟩)else r:=by
 rw [List.drop_eq_getElem_cons hk,jT,List.take_add_one,N3 hk];rfl
theorem zby {px sb lb pb:Nat}{av:Value}(B:Nat)(n:zp)(t:List Nat)(ow:Own)(era:qZ)(w:World)(hN:zx B px sb lb pb av n t ow w):
 Calls prog 142 #[.pointer (some ⟨B,0,none⟩),Js era] w λr w'=>r=.returned (okV (jT era [] (Ze n.pool (if(qX era.2.1).1=1 then 1 else 8)) ([],false)))/\Below w.heap.size w w':=by
 have hB:=hN.blk;unfold zz at hB;have e0:=hB.cell;have l0:=hB.lt;have hpr:=λW=>zaG era.2.1 W
 obtain⟨ep,ve,st⟩:=era;unfold Js okV;simp only at hpr⊢;obtain⟨⟨q1,q2⟩,hq⟩:∃q,qX ve=q:=⟨_,rfl⟩;rw [hq] at hpr⊢;simp only at hpr⊢;obtain⟨mo,hmo⟩:∃mo:Nat,mo=(if q1=1 then 1 else 8):=⟨_,rfl⟩;rw [← hmo];have hm1:1<=mo/\mo<=64:=by rw [hmo];split<;>omega
 have hbat:=λW h=>zc0 pb n.pool (t++ [3]) ow mo hm1.1 hm1.2 W h
 have hlen:(Ze n.pool mo).length<=mo:=by unfold Ze;rw [N7];omega
 obtain⟨l,hl⟩:∃l,Ze n.pool mo=l:=⟨_,rfl⟩;rw [hl] at hbat hlen⊢;unfold VY at hbat;have hpool:=hN.pool;replace hl:=hid hl;replace hq:=hid hq;replace hpr:=hid hpr;replace hbat:=hid hbat;have hkA:Blk (w.alloc (.cells #[.int .u32 ep,.int .i64 ve,.int .i64 st] 197)) w.heap.size #[.int .u32 ep,.int .i64 ve,.int .i64 st] 197:=Blk.new (by simp)
 by_cases h1:q1=1
 ·have t1:(q1==1)=true:=by simp [h1]
  rw [if_pos h1] at hmo;subst hmo;replace h1:=hid h1
  go_enter func142,ntmps142
  go_wp2_with fail
  refine(hpr.out _).mono ?_;rintro r w1⟨rfl,hb1⟩;have hb1w:Below w.heap.size w w1:=pbx;have hB1:=hB.call hb1w;have kA1:=hkA.call hb1;have c1:=hB1.cell;go_wp2_with fail
  refine(hbat.out _ ((jU.loc pb n.pool (t++ [3])).below hpool hb1w)).mono ?_;rintro r w2⟨v,rfl,hb2,hrow2,hnew2⟩;have hb2w:=zg hb1w hb2;have kA2:=kA1.call hb2;obtain⟨va,vc,rfl⟩:=hrow2.src.shape;replace hrow2:=hid hrow2;replace hnew2:=hid hnew2;clear e0 l0 c1 hB1 kA1 hkA;go_wp2_with fail
  go_loopw [11,12,35] (λp11 p12 p35 wr=>∃(k:Nat)(x:List UInt8)(f:Bool),p11=.string (bs x)/\p12=.bool f/\p35=.int .i64 (k:Nat)/\k<=l.length/\Below w2.heap.size w2 wr/\jT (ep,ve,st) [] l ([],false)=jT (ep,ve,st) (l.take k) (l.drop k) (x,f)) (λ_ _ p35 _=>l.length - (intOf p35).toNat)
  case atStart=>exact⟨0,[],false,rfl,rfl,rfl,by omega,N2 _ _,rfl⟩
  case round=>
   obtain⟨k,x,f,rfl,rfl,rfl,hk,hbk,hbt⟩:=hrel
   by_cases hkl:k<l.length
   ·rw [JM (ep,ve,st) l hkl] at hbt
    have t2:decide ((k:Int)<(l.length:Int))=true:=by simpa using hkl
    have hwk:IntKind.i64.wrap ((k:Int)+1)=(k:Int)+1:=by rw [N8];omega
    obtain⟨g,hva,hcap⟩:∃g,va=some ⟨g,0,none⟩/\l.length<=vc:=by
     rcases hrow2.out.form with⟨h,h0, -⟩|⟨g,cap,h,h2, -⟩
     ·omega
     ·cases h;exact⟨g,rfl,h2⟩
    subst hva;have y0:(0:Int)<=(k:Int)+1:=by omega
    have y1:(k:Int)+1<=(vc:Int):=by omega
    have hcw:IntKind.i64.wrap (vc:Int)=(vc:Int):=by
     rcases hrow2.out.form with⟨h,h0, -⟩|⟨g,cap,h,h2,h3⟩
     ·omega
     ·cases h;unfold maxLen at h3;rw [N8];omega
    have kAk:=kA2.call hbk;have hsk:x8 wr (.slice (some ⟨g,0,none⟩) (k+1) vc) (l.take (k+1)):=JL (hrow2.out.src.below hbk) (by omega);have hby:=λW h=>Yx ⟨1,ep,0,l.take (k+1)⟩ (.slice (some ⟨g,0,none⟩) (k+1) vc) W h (by show(l.take (k+1)).length<=_;rw [N7];omega)
    obtain⟨⟨y,b⟩,hy⟩:∃q,qU ⟨1,ep,0,l.take (k+1)⟩=q:=⟨_,rfl⟩;rw [hy] at hby hbt;unfold qV okV at hby;simp only at hby hbt;replace hby:=hid hby;replace hy:=hid hy;replace hbt:=hid hbt;go_wp2_with fail
    refine zd [O 0,O 1,O 2,O 3,O 4,O 5,E 6,E 7,O 8,O 9,O 10,O 11,O 12] none (λw'=>Blk w' w.heap.size #[.int .u32 ep,.int .i64 ve,.int .i64 st] 197/\True) (by kernel_rfl) (by kernel_rfl) ⟨kAk.drew,trivial⟩ ?_
    (repeat (refine za (v:=?_) rfl rfl (λw' h=>?_) (λK k=>?_);rotate_left;obtain⟨f1,_⟩:=h;have e1:=f1.cell;go_simp;(try with_reducible rfl);go_simp;refine k _ ?_;clear k K))
    refine zc rfl (λK hK=>?_);go_wp2;refine hK.out _ _ (λ_=>⟨kAk.drew,trivial⟩) ?_;clear hK K;refine zc rfl (λK hK=>?_);go_wp2_with fail
    refine(hby.out _ (Src.below hsk (zo (N2 _ _)))).mono ?_;rintro r w4⟨rfl,hb4⟩;have hbk4:=zg (zo hbk) hb4;go_wp2;refine hK.out _ _ (λ_=>⟨kAk.drew.call hb4,trivial⟩) ?_;clear hK K
    (repeat (refine za (v:=?_) rfl rfl (λw' h=>?_) (λK k=>?_);rotate_left;obtain⟨f1,_⟩:=h;have e1:=f1.cell;go_simp;(try with_reducible rfl);go_simp;refine k _ ?_;clear k K))
    refine ze ?_
    cases b with
    |true=>
     go_wp2
     go_roundw
     case rel=>exact⟨k+1,y,true,rfl,rfl,by simp,by omega,hbk4,hbt.out⟩
     case measure=>simp [intOf];omega
    |false=>
     have hbw:Below w.heap.size w w4:=zg hb2w hbk4;go_wp2;go_ret2
     exact⟨by rw [hbt.out];rfl,hbw⟩
   ·obtain rfl:k=l.length:=by omega
    have t2:decide ((l.length:Int)<(l.length:Int))=false:=by simp
    rw [List.drop_length,jT] at hbt;have hbw:Below w.heap.size w wr:=zg hb2w hbk;replace hbt:=hid hbt;go_wp2;go_ret2
    exact⟨by rw [hbt.out];rfl,hbw⟩
 ·have t1:(q1==1)=false:=by simpa using h1
  rw [if_neg h1] at hmo;subst hmo;replace h1:=hid h1
  go_enter func142,ntmps142
  go_wp2_with fail
  refine(hpr.out _).mono ?_;rintro r w1⟨rfl,hb1⟩;have hb1w:Below w.heap.size w w1:=pbx;have hB1:=hB.call hb1w;have kA1:=hkA.call hb1;have c1:=hB1.cell;go_wp2_with fail
  refine(hbat.out _ ((jU.loc pb n.pool (t++ [3])).below hpool hb1w)).mono ?_;rintro r w2⟨v,rfl,hb2,hrow2,hnew2⟩;have hb2w:=zg hb1w hb2;have kA2:=kA1.call hb2;obtain⟨va,vc,rfl⟩:=hrow2.src.shape;replace hrow2:=hid hrow2;replace hnew2:=hid hnew2;clear e0 l0 c1 hB1 kA1 hkA;go_wp2_with fail
  go_loopw [11,12,35] (λp11 p12 p35 wr=>∃(k:Nat)(x:List UInt8)(f:Bool),p11=.string (bs x)/\p12=.bool f/\p35=.int .i64 (k:Nat)/\k<=l.length/\Below w2.heap.size w2 wr/\jT (ep,ve,st) [] l ([],false)=jT (ep,ve,st) (l.take k) (l.drop k) (x,f)) (λ_ _ p35 _=>l.length - (intOf p35).toNat)
  case atStart=>exact⟨0,[],false,rfl,rfl,rfl,by omega,N2 _ _,rfl⟩
  case round=>
   obtain⟨k,x,f,rfl,rfl,rfl,hk,hbk,hbt⟩:=hrel
   by_cases hkl:k<l.length
   ·rw [JM (ep,ve,st) l hkl] at hbt
    have t2:decide ((k:Int)<(l.length:Int))=true:=by simpa using hkl
    have hwk:IntKind.i64.wrap ((k:Int)+1)=(k:Int)+1:=by rw [N8];omega
    obtain⟨g,hva,hcap⟩:∃g,va=some ⟨g,0,none⟩/\l.length<=vc:=by
     rcases hrow2.out.form with⟨h,h0, -⟩|⟨g,cap,h,h2, -⟩
     ·omega
     ·cases h;exact⟨g,rfl,h2⟩
    subst hva;have y0:(0:Int)<=(k:Int)+1:=by omega
    have y1:(k:Int)+1<=(vc:Int):=by omega
    have hcw:IntKind.i64.wrap (vc:Int)=(vc:Int):=by
     rcases hrow2.out.form with⟨h,h0, -⟩|⟨g,cap,h,h2,h3⟩
     ·omega
     ·cases h;unfold maxLen at h3;rw [N8];omega
    have kAk:=kA2.call hbk;have hsk:x8 wr (.slice (some ⟨g,0,none⟩) (k+1) vc) (l.take (k+1)):=JL (hrow2.out.src.below hbk) (by omega);have hby:=λW h=>Yx ⟨1,ep,0,l.take (k+1)⟩ (.slice (some ⟨g,0,none⟩) (k+1) vc) W h (by show(l.take (k+1)).length<=_;rw [N7];omega)
    obtain⟨⟨y,b⟩,hy⟩:∃q,qU ⟨1,ep,0,l.take (k+1)⟩=q:=⟨_,rfl⟩;rw [hy] at hby hbt;unfold qV okV at hby;simp only at hby hbt;replace hby:=hid hby;replace hy:=hid hy;replace hbt:=hid hbt;go_wp2_with fail
    refine zd [O 0,O 1,O 2,O 3,O 4,O 5,E 6,E 7,O 8,O 9,O 10,O 11,O 12] none (λw'=>Blk w' w.heap.size #[.int .u32 ep,.int .i64 ve,.int .i64 st] 197/\True) (by kernel_rfl) (by kernel_rfl) ⟨kAk.drew,trivial⟩ ?_
    (repeat (refine za (v:=?_) rfl rfl (λw' h=>?_) (λK k=>?_);rotate_left;obtain⟨f1,_⟩:=h;have e1:=f1.cell;go_simp;(try with_reducible rfl);go_simp;refine k _ ?_;clear k K))
    refine zc rfl (λK hK=>?_);go_wp2;refine hK.out _ _ (λ_=>⟨kAk.drew,trivial⟩) ?_;clear hK K;refine zc rfl (λK hK=>?_);go_wp2_with fail
    refine(hby.out _ (Src.below hsk (zo (N2 _ _)))).mono ?_;rintro r w4⟨rfl,hb4⟩;have hbk4:=zg (zo hbk) hb4;go_wp2;refine hK.out _ _ (λ_=>⟨kAk.drew.call hb4,trivial⟩) ?_;clear hK K
    (repeat (refine za (v:=?_) rfl rfl (λw' h=>?_) (λK k=>?_);rotate_left;obtain⟨f1,_⟩:=h;have e1:=f1.cell;go_simp;(try with_reducible rfl);go_simp;refine k _ ?_;clear k K))
    refine ze ?_
    cases b with
    |true=>
     go_wp2
     go_roundw
     case rel=>exact⟨k+1,y,true,rfl,rfl,by simp,by omega,hbk4,hbt.out⟩
     case measure=>simp [intOf];omega
    |false=>
     have hbw:Below w.heap.size w w4:=zg hb2w hbk4;go_wp2;go_ret2
     exact⟨by rw [hbt.out];rfl,hbw⟩
   ·obtain rfl:k=l.length:=by omega
    have t2:decide ((l.length:Int)<(l.length:Int))=false:=by simp
    rw [List.drop_length,jT] at hbt;have hbw:Below w.heap.size w wr:=zg hb2w hbk;replace hbt:=hid hbt;go_wp2;go_ret2
    exact⟨by rw [hbt.out];rfl,hbw⟩
theorem JN {px sb lb pb:Nat}{av:Value}(B:Nat)(n:zp)(t:List Nat)(ow:Own)(w:World)(hN:zx B px sb lb pb av n t ow w)(hl:n.loc.fold.eras.length<=536870912):
 Calls prog 96 #[.pointer (some ⟨B,0,none⟩)] w λr w'=>r=.returned (okV (jP n))/\Below w.heap.size w w':=by
 have hB:=hN.blk;have hr:=vX w hB
 have hpn:jP n=if n.down then([],false)
  else if n.loc.blk then qU ⟨3,(vk n.loc.fold.eras).1,0,[]⟩
  else if n.wanted≠0/\j2 (vk n.loc.fold.eras).2.1 n.wanted=0 then qU ⟨2,(vk n.loc.fold.eras).1,n.wanted,[]⟩
  else jT (vk n.loc.fold.eras) [] (Ze n.pool (if(qX (vk n.loc.fold.eras).2.1).1=1 then 1 else 8)) ([],false):=by
  have hp:(qX (vk n.loc.fold.eras).2.1).1=(if known (vk n.loc.fold.eras).2.1 then(if(vk n.loc.fold.eras).2.1=1 then(1:Int)else 2)else 0):=by
   unfold qX;split
   ·split<;>rfl
   ·rfl
  rw [hp];rfl
 have hera:=λW hW=>Vh lb n.loc (t++ [2]) ow W hW hl
 have hno:=λhb W hW=>ziF lb n.loc (t++ [2]) ow W hW hb
 have hyes:=λhb W hW=>zgJ lb n.loc (t++ [2]) ow W hW hb hl
 have hlo:=hN.lo;have hby:=λk ep v W=>Yx ⟨k,ep,v,[]⟩ (.slice none 0 0) W (zgj _ _) (by simp)
 unfold zz at hB;unfold Jw at hr;have e0:=hB.cell;have l0:=hB.lt;obtain⟨⟨ep,ve,st⟩,hn⟩:∃x,vk n.loc.fold.eras=x:=⟨_,rfl⟩;rw [hn] at hera hpn hyes;have hbt:=λW (hb:Below w.heap.size w W)=>zby B n t ow (ep,ve,st) W ((zx.loc B px sb lb pb av n t).below hN hb)
 unfold Js at hera hbt;unfold okV qV at hby;unfold okV at hbt;simp only at hera hpn hyes hbt;obtain⟨BB,hBB⟩:∃q,jT (ep,ve,st) [] (Ze n.pool (if(qX ve).1=1 then 1 else 8)) ([],false)=q:=⟨_,rfl⟩;rw [hBB] at hbt hpn;replace hBB:=hid hBB;replace hera:=hid hera;replace hn:=hid hn;replace hlo:=hid hlo;replace hbt:=hid hbt;replace hby:=hid hby;rw [hpn]
 by_cases hd:n.down=true
 ·rw [if_pos hd] at hpn⊢
  rw [hd] at hr;replace hpn:=hid hpn;replace hr:=hid hr;replace hd:=hid hd
  go_enter func96,ntmps96
  go_wp2_with fail
  refine hr.out.mono ?_;rintro e w1⟨rfl,hw1⟩;obtain rfl:=hw1.symm;go_wp2;go_ret2
  exact⟨rfl,N2 _ _⟩
 ·have hd':n.down=false:=by simpa using hd
  rw [if_neg hd] at hpn⊢;rw [hd'] at hr;replace hr:=hid hr;replace hd:=hid hd;replace hd':=hid hd'
  by_cases hbl:n.loc.blk=true
  ·have hasks:=hyes hbl
   rw [if_pos hbl] at hpn⊢;clear hyes hno;replace hasks:=hid hasks;replace hpn:=hid hpn;replace hbl:=hid hbl
   go_enter func96,ntmps96
   go_wp2_with fail
   refine hr.out.mono ?_;rintro e w1⟨rfl,hw1⟩;obtain rfl:=hw1.symm;go_wp2_with fail
   refine(hasks.out _ hlo.out).mono ?_;rintro e w1⟨rfl,hb1⟩;go_wp2_with fail
   refine(hby.out 3 ep 0 _).mono ?_;rintro e w2⟨rfl,hb2⟩;go_wp2;go_ret2
   exact⟨rfl,pbx⟩
  ·have hbl':n.loc.blk=false:=by simpa using hbl
   have hasks:=hno hbl';rw [if_neg hbl] at hpn⊢;clear hyes hno;replace hasks:=hid hasks;replace hbl:=hid hbl;replace hbl':=hid hbl'
   by_cases hw:n.wanted=0
   ·rw [if_neg (λh=>h.1 hw)] at hpn⊢
    have t2:(n.wanted !=0)=false:=by simp [hw]
    replace hpn:=hid hpn;replace hw:=hid hw
    go_enter func96,ntmps96
    go_wp2_with fail
    refine hr.out.mono ?_;rintro e w1⟨rfl,hw1⟩;obtain rfl:=hw1.symm;go_wp2_with fail
    refine(hasks.out _ hlo.out).mono ?_;rintro e w1⟨rfl,hb1⟩;have hbA:Below w.heap.size w (w1.alloc (.cells #[.int .i64 0,.int .u32 0,.int .i64 0,.slice none 0 0] 241)):=pbx;have cA:=(hB.call hbA).cell;go_wp2_with fail
    refine(hera.out _ ((zI.loc lb n.loc (t++ [2])).below hlo.out hbA)).mono ?_;rintro e w2⟨rfl,hb2⟩;obtain⟨W3,hW3⟩:∃W3,W3=(w2.alloc (.cells #[.int .u32 ep,.int .i64 ve,.int .i64 st] 197)).drew:=⟨_,rfl⟩;have hb3:Below w.heap.size w W3:=by rw [hW3];exact zo (zi (zg hbA hb2) _)
    have kE3:Blk W3 w2.heap.size #[.int .u32 ep,.int .i64 ve,.int .i64 st] 197:=by rw [hW3];exact bkx
    have kB3:=hB.call hb3;clear cA;go_wp2_with fail
    refine zd [O 0,O 1,O 2,O 3,O 4,O 5,O 6,O 7,O 8,O 9,O 10,O 11,E 12,O 13,O 14] none (λw'=>Blk w' B #[.pointer (some ⟨px,0,none⟩),.int .i64 n.id,.int .i64 n.version,.slice none 0 0,.pointer (some ⟨sb,0,none⟩),.pointer (some ⟨lb,0,none⟩),.pointer (some ⟨pb,0,none⟩),av,.int .i64 (n.offered:Nat),.int .i64 (n.applied:Nat),.int .i64 n.wanted,.bool n.down] 98/\Blk w' w2.heap.size #[.int .u32 ep,.int .i64 ve,.int .i64 st] 197/\True) (by kernel_rfl) (by kernel_rfl) (by rw [← hW3];exact⟨kB3,kE3,trivial⟩) ?_;rw [← hW3];clear hW3
    (repeat (refine za (v:=?_) rfl rfl (λw' h=>?_) (λK k=>?_);rotate_left;obtain⟨f1,f2,_⟩:=h;have e1:=f1.cell;have e2:=f2.cell;go_simp;(try with_reducible rfl);go_simp;refine k _ ?_;clear k K))
    (repeat (refine je rfl rfl (λK hK=>?_);go_simp;refine hK _ ?_;clear hK K))
    refine zc rfl (λK hK=>?_);go_wp2;refine hK.out _ _ (λ_=>⟨kB3,kE3,trivial⟩) ?_;clear hK K
    (repeat (refine je rfl rfl (λK hK=>?_);go_simp;refine hK _ ?_;clear hK K))
    (repeat (refine za (v:=?_) rfl rfl (λw' h=>?_) (λK k=>?_);rotate_left;obtain⟨f1,f2,_⟩:=h;have e1:=f1.cell;have e2:=f2.cell;go_simp;(try with_reducible rfl);go_simp;refine k _ ?_;clear k K))
    refine ze ?_;have cE:=(kE3).cell;go_wp2_with fail
    refine(hbt.out W3 hb3).mono ?_;rintro e w7⟨rfl,hb7⟩;have hb7w:=zg hb3 hb7;go_wp2;go_ret2
    exact⟨rfl,hb7w⟩
   ·have t2:(n.wanted !=0)=true:=by simpa using hw
    obtain⟨er,her⟩:∃er,j2 ve n.wanted=er:=⟨_,rfl⟩;have hck:=λW=>xJ ve n.wanted W
    rw [her] at hck;rw [her] at hpn⊢;replace her:=hid her;replace hck:=hid hck
    by_cases he:er=0
    ·rw [if_pos ⟨hw,he⟩] at hpn⊢
     subst he;replace hpn:=hid hpn;replace hw:=hid hw
     go_enter func96,ntmps96
     go_wp2_with fail
     refine hr.out.mono ?_;rintro e w1⟨rfl,hw1⟩;obtain rfl:=hw1.symm;go_wp2_with fail
     refine(hasks.out _ hlo.out).mono ?_;rintro e w1⟨rfl,hb1⟩;have hbA:Below w.heap.size w (w1.alloc (.cells #[.int .i64 0,.int .u32 0,.int .i64 0,.slice none 0 0] 241)):=pbx;have cA:=(hB.call hbA).cell;go_wp2_with fail
     refine(hera.out _ ((zI.loc lb n.loc (t++ [2])).below hlo.out hbA)).mono ?_;rintro e w2⟨rfl,hb2⟩;obtain⟨W3,hW3⟩:∃W3,W3=(w2.alloc (.cells #[.int .u32 ep,.int .i64 ve,.int .i64 st] 197)).drew:=⟨_,rfl⟩;have hb3:Below w.heap.size w W3:=by rw [hW3];exact zo (zi (zg hbA hb2) _)
     have kE3:Blk W3 w2.heap.size #[.int .u32 ep,.int .i64 ve,.int .i64 st] 197:=by rw [hW3];exact bkx
     have kB3:=hB.call hb3;clear cA;go_wp2_with fail
     refine zd [O 0,O 1,O 2,O 3,O 4,O 5,O 6,O 7,O 8,O 9,O 10,O 11,E 12,O 13,O 14] none (λw'=>Blk w' B #[.pointer (some ⟨px,0,none⟩),.int .i64 n.id,.int .i64 n.version,.slice none 0 0,.pointer (some ⟨sb,0,none⟩),.pointer (some ⟨lb,0,none⟩),.pointer (some ⟨pb,0,none⟩),av,.int .i64 (n.offered:Nat),.int .i64 (n.applied:Nat),.int .i64 n.wanted,.bool n.down] 98/\Blk w' w2.heap.size #[.int .u32 ep,.int .i64 ve,.int .i64 st] 197/\True) (by kernel_rfl) (by kernel_rfl) (by rw [← hW3];exact⟨kB3,kE3,trivial⟩) ?_;rw [← hW3];clear hW3
     (repeat (refine za (v:=?_) rfl rfl (λw' h=>?_) (λK k=>?_);rotate_left;obtain⟨f1,f2,_⟩:=h;have e1:=f1.cell;have e2:=f2.cell;go_simp;(try with_reducible rfl);go_simp;refine k _ ?_;clear k K))
     refine zc rfl (λK hK=>?_);go_wp2_with fail
     refine(hck.out _).mono ?_;rintro e w4⟨rfl,hb4⟩;have kB4:=kB3.call hb4;have kE4:=kE3.call hb4;have hb4w:=zg hb3 hb4;go_wp2;refine hK.out _ _ (λ_=>⟨kB4,kE4,trivial⟩) ?_;clear hK K
     (repeat (refine za (v:=?_) rfl rfl (λw' h=>?_) (λK k=>?_);rotate_left;obtain⟨f1,f2,_⟩:=h;have e1:=f1.cell;have e2:=f2.cell;go_simp;(try with_reducible rfl);go_simp;refine k _ ?_;clear k K))
     refine ze ?_;go_wp2_with fail
     refine zd [O 0,O 1,O 2,O 3,O 4,O 5,E 6,E 7,O 8,O 9,O 10,O 11] none (λw'=>Blk w' B #[.pointer (some ⟨px,0,none⟩),.int .i64 n.id,.int .i64 n.version,.slice none 0 0,.pointer (some ⟨sb,0,none⟩),.pointer (some ⟨lb,0,none⟩),.pointer (some ⟨pb,0,none⟩),av,.int .i64 (n.offered:Nat),.int .i64 (n.applied:Nat),.int .i64 n.wanted,.bool n.down] 98/\Blk w' w2.heap.size #[.int .u32 ep,.int .i64 ve,.int .i64 st] 197/\True) (by kernel_rfl) (by kernel_rfl) ⟨kB4.drew,kE4.drew,trivial⟩ ?_
     (repeat (refine za (v:=?_) rfl rfl (λw' h=>?_) (λK k=>?_);rotate_left;obtain⟨f1,f2,_⟩:=h;have e1:=f1.cell;have e2:=f2.cell;go_simp;(try with_reducible rfl);go_simp;refine k _ ?_;clear k K))
     refine zc rfl (λK hK=>?_);go_wp2;refine hK.out _ _ (λ_=>⟨kB4.drew,kE4.drew,trivial⟩) ?_;clear hK K;refine zc rfl (λK hK=>?_);go_wp2_with fail
     refine(hby.out 2 ep n.wanted _).mono ?_;rintro e w5⟨rfl,hb5⟩;go_wp2;refine hK.out _ _ (λ_=>⟨kB4.drew.call hb5,kE4.drew.call hb5,trivial⟩) ?_;clear hK K
     (repeat (refine za (v:=?_) rfl rfl (λw' h=>?_) (λK k=>?_);rotate_left;obtain⟨f1,f2,_⟩:=h;have e1:=f1.cell;have e2:=f2.cell;go_simp;(try with_reducible rfl);go_simp;refine k _ ?_;clear k K))
     refine ze ?_;have hb5w:=zg (zo hb4w) hb5;go_wp2;go_ret2
     exact⟨rfl,hb5w⟩
    ·rw [if_neg (λh=>he h.2)] at hpn⊢
     have t3:(er==0)=false:=by simpa using he
     replace hpn:=hid hpn;replace hw:=hid hw;replace he:=hid he
     go_enter func96,ntmps96
     go_wp2_with fail
     refine hr.out.mono ?_;rintro e w1⟨rfl,hw1⟩;obtain rfl:=hw1.symm;go_wp2_with fail
     refine(hasks.out _ hlo.out).mono ?_;rintro e w1⟨rfl,hb1⟩;have hbA:Below w.heap.size w (w1.alloc (.cells #[.int .i64 0,.int .u32 0,.int .i64 0,.slice none 0 0] 241)):=pbx;have cA:=(hB.call hbA).cell;go_wp2_with fail
     refine(hera.out _ ((zI.loc lb n.loc (t++ [2])).below hlo.out hbA)).mono ?_;rintro e w2⟨rfl,hb2⟩;obtain⟨W3,hW3⟩:∃W3,W3=(w2.alloc (.cells #[.int .u32 ep,.int .i64 ve,.int .i64 st] 197)).drew:=⟨_,rfl⟩;have hb3:Below w.heap.size w W3:=by rw [hW3];exact zo (zi (zg hbA hb2) _)
     have kE3:Blk W3 w2.heap.size #[.int .u32 ep,.int .i64 ve,.int .i64 st] 197:=by rw [hW3];exact bkx
     have kB3:=hB.call hb3;clear cA;go_wp2_with fail
     refine zd [O 0,O 1,O 2,O 3,O 4,O 5,O 6,O 7,O 8,O 9,O 10,O 11,E 12,O 13,O 14] none (λw'=>Blk w' B #[.pointer (some ⟨px,0,none⟩),.int .i64 n.id,.int .i64 n.version,.slice none 0 0,.pointer (some ⟨sb,0,none⟩),.pointer (some ⟨lb,0,none⟩),.pointer (some ⟨pb,0,none⟩),av,.int .i64 (n.offered:Nat),.int .i64 (n.applied:Nat),.int .i64 n.wanted,.bool n.down] 98/\Blk w' w2.heap.size #[.int .u32 ep,.int .i64 ve,.int .i64 st] 197/\True) (by kernel_rfl) (by kernel_rfl) (by rw [← hW3];exact⟨kB3,kE3,trivial⟩) ?_;rw [← hW3];clear hW3
     (repeat (refine za (v:=?_) rfl rfl (λw' h=>?_) (λK k=>?_);rotate_left;obtain⟨f1,f2,_⟩:=h;have e1:=f1.cell;have e2:=f2.cell;go_simp;(try with_reducible rfl);go_simp;refine k _ ?_;clear k K))
     refine zc rfl (λK hK=>?_);go_wp2_with fail
     refine(hck.out _).mono ?_;rintro e w4⟨rfl,hb4⟩;have kB4:=kB3.call hb4;have kE4:=kE3.call hb4;have hb4w:=zg hb3 hb4;go_wp2;refine hK.out _ _ (λ_=>⟨kB4,kE4,trivial⟩) ?_;clear hK K
     (repeat (refine za (v:=?_) rfl rfl (λw' h=>?_) (λK k=>?_);rotate_left;obtain⟨f1,f2,_⟩:=h;have e1:=f1.cell;have e2:=f2.cell;go_simp;(try with_reducible rfl);go_simp;refine k _ ?_;clear k K))
     refine ze ?_;have cE:=(kE4).cell;go_wp2_with fail
     refine(hbt.out w4 hb4w).mono ?_;rintro e w7⟨rfl,hb7⟩;have hb7w:=zg hb4w hb7;go_wp2;go_ret2
     exact⟨rfl,hb7w⟩
theorem zad(n:zp)(d:List UInt8):(zF n d).1.pax=n.pax:=by
 unfold zF
 split
 ·rfl
 ·split
  ·rfl
  ·split
   ·rfl
   ·exact(vC _ _).1.pax
theorem XQ(p:xn)(i:Int)(b:Nat):(zC p i b).1.known=p.known:=by
 unfold zC
 split
 ·rfl
 ·split<;>rfl
theorem zc8(p:xn)(i:Int)(b:Nat)(x:List UInt8):(vy p i b x).1.known=p.known:=by
 unfold vy
 split
 ·rfl
 ·split<;>rfl
theorem zae(n:zp)(i:Int)(b:Nat):(zA n i b).1.pax.known=n.pax.known:=by
 unfold zA
 split
 ·rfl
 ·split
  ·rfl
  ·split<;>exact XQ _ _ _
theorem Qp(n:zp)(i:Int)(b:Nat)(x:List UInt8):(yE n i b x).1.pax.known=n.pax.known:=by
 unfold yE
 split
 ·rfl
 ·split
  ·rfl
  ·exact zc8 _ _ _ _
theorem Zh(n:zp)(i:Int)(x:List UInt8)(h:yp n.pax.known):yp (ja n i x).1.pax.known:=by
 have hk:=(ZZ (p:=n.pax) i x).2.1 h;unfold ja
 split
 ·exact h
 ·simp only
  split
  ·exact h
  ·split
   ·rw [(yX _ _).pax];exact hk
   ·split
    ·exact hk
    ·rw [(yX _ _).pax];exact hk
theorem XR(n:zp)(s:StD):yp (yP n s).pax.known:=by
 unfold yP;simp only
 show yp (jG _ _).pax.known
 rw [(vC _ _).1.pax,(yX _ _).pax];exact(Qo {n with store:=(jr n.store).1} s _).2.1
structure vj(v:Int)(n:zp):Prop where
 ok:zbm (zt v) n
 known:yp n.pax.known
 ver:n.version=v
theorem vj.does {v:Int}{n:zp}(h:vj v n)(x:zkz)(hb:x.b<18446744073709551616):vj v (zcO (zt v) n x):=by
 refine⟨zj5 h.ok x hb,?_,?_⟩
 ·have hk:=h.known
  unfold zcO
  split
  ·rw [zad];exact hk
  split
  ·rw [zae];exact hk
  split
  ·rw [Qp];exact hk
  split
  ·exact Zh _ _ _ hk
  split
  ·unfold ZY;split
   ·exact hk
   ·split<;>exact hk
  split
  ·unfold zjY;split<;>exact hk
  split
  ·unfold VF;split<;>exact hk
  split
  ·exact XR _ _
  split
  ·exact Zh _ _ _ hk
  ·exact hk
 ·obtain⟨⟨l,hi⟩, -⟩:=h.ok
  obtain⟨l',hs⟩:=zbk hi x hb;exact hs.same.2.1.trans h.ver
theorem vj.broadcast {v:Int}{n:zp}(h:vj v n)(d:List UInt8)(hd:d.length<=300):vj v (zF n d).1:=by
 have:=h.does ⟨0,0,0,d⟩ (by simp)
 rwa [show zcO (zt v) n ⟨0,0,0,d⟩=(zF n (zbi ⟨0,0,0,d⟩)).1 from rfl,show zbi ⟨0,0,0,d⟩=d from List.take_of_length_le hd] at this
theorem vj.promise {v:Int}{n:zp}(h:vj v n)(i:Int)(b:Nat)(hb:b<18446744073709551616):vj v (zA n i b).1:=h.does ⟨1,i,b,[]⟩ hb
theorem vj.want {v:Int}{n:zp}(h:vj v n)(i:Int):vj v (ZY n i).1:=h.does ⟨4,i,0,[]⟩ (by simp)
theorem vj.recover {v:Int}{n:zp}(h:vj v n):vj v (yP n (zt v)):=h.does ⟨7,0,0,[]⟩ (by simp)
theorem vj.new {v id cap:Int}(h1:64<=cap)(h2:cap<=1048576):vj v (zgd id v cap [] (zt v)):=
 ⟨⟨⟨[],ziP id v cap [] (zt v)⟩,zbl h1 h2⟩,λi x h=>by simp [zgd,x9,zD] at h,rfl⟩
def more(F:Nat->Prop)(W W':World):Nat->Prop:=λk=>F k∨(W.heap.size<=k/\k<W'.heap.size)
variable {w W W':World}{F:Nat->Prop}{B:Nat}{n:zp}{a:Addr}{v:Int}
end
open Go
def zlu:List UInt8->List UInt8->List UInt8
 | [],_=>[]
 |b::l,[]=>b::l
 |b::l,c::m=>(b ^^^ c)::zlu l m
def zle(mask r:Nat):List UInt8:=(le4 (mask*2 ^ r))++ [UInt8.ofNat (mask*2 ^ r / 4294967296)]
def zc9(s:List UInt8)(bit:Int)(mask:Nat):List UInt8×Int:=
 if bit<0∨(s.length:Int)<=bit / 8 then([],2)
 else(s.take (bit.toNat / 8)++zlu (s.drop (bit.toNat / 8)) (zle mask (bit.toNat % 8)),0)
