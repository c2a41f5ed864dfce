/- PARTS OF THE PROOF. -/
import Derived.Test.YtobnhnidffipjaaGreatDoorQ29
set_option maxRecDepth 8000
set_option maxHeartbeats 4000000
open Go.Proofs.Tryz
namespace Go.Proofs.YtobnhnidffipjaaGreatDoor
open Go Go.RowKit Go.Shelf Go.Extern.Stop Go.Stop Go.Extern
attribute [local go_sem] Oper.semAt_some zw zn
def okV(r:List UInt8×Bool):Value:=.tuple #[.string (bs r.1),.bool r.2]
theorem Yv(e:jF)(mv:Value)(w:World)(hm:qc w mv e.msgs)(hl:e.msgs.length<=1073741824):Calls prog 102 #[qW e mv] w λr w'=>r=.returned (okV (JG e))/\Below w.heap.size w w':=by
 have hen:=λW h=>Yf e mv W h hl
 have hm1:=Src.below hm ((N2 w.heap.size w).alloc (N0 _) (.cells #[.int .i64 e.kind,.int .u32 e.epoch,.int .i64 e.ver,mv] 178));unfold JG okV;obtain⟨⟨x,er⟩,hx⟩:∃q,vo e=q:=⟨_,rfl⟩;rw [hx] at hen⊢;unfold qW at hen⊢;simp only at hen⊢
 obtain⟨ma,mn,mc,rfl⟩:∃a n c,mv=.slice a n c:=by
  rcases hm.2 with⟨rfl, -⟩|⟨b,off,cap,rfl, -⟩
  ·exact⟨_,_,_,rfl⟩
  ·exact⟨_,_,_,rfl⟩
 replace hen:=G hen;replace hx:=G hx
 by_cases her:er=0
 ·subst her
  go_enter func102,ntmps102
  go_wp2_with fail
  refine(hen.out _ hm1).mono ?_;rintro r w1⟨rfl,hb1⟩;go_wp2;go_ret2
  exact⟨rfl,pbx⟩
 ·have t1:(er==0)=false:=by simpa using her
  rw [show decide (er=0)=false by simpa using her];replace her:=G her
  go_enter func102,ntmps102
  go_wp2_with fail
  refine(hen.out _ hm1).mono ?_;rintro r w1⟨rfl,hb1⟩;go_wp2;go_ret2
  exact⟨rfl,pbx⟩
theorem JT {W:World}{l:List zD}{b off cap:Nat}(h:Src W (.slice (some ⟨b,off,none⟩) l.length cap) 3 l.length (l.flatMap zh)){k:Nat}(hk:k<=l.length):qc W (.slice (some ⟨b,off,none⟩) k cap) (l.take k):=by
 have hlen:(l.take k).length=k:=by rw [N7];omega
 rcases h.2 with⟨h, -⟩|⟨b',off',cap',h,hc,hr⟩
 ·cases h
 ·cases h
  show Src W _ 3 (l.take k).length _
  rw [hlen];refine⟨?_,.inr ⟨b,off,cap,rfl,by omega,λj u hu=>?_⟩⟩
  ·rw [zaK,hlen]
  ·refine hr j u ?_
   have hap:l.flatMap zh=(l.take k).flatMap zh++(l.drop k).flatMap zh:=by rw [← U5,List.take_append_drop]
   rw [hap,U8 (N6.1 hu).1];exact hu
theorem JU(era:Zx)(l:List zD){k:Nat}(hk:k<l.length)(r:List UInt8×Bool):yf era (l.take k) (l.drop k) r=if(JG ⟨1,era.1,0,l.take (k+1)⟩).2 then yf era (l.take (k+1)) (l.drop (k+1)) (JG ⟨1,era.1,0,l.take (k+1)⟩)else r:=by
 rw [List.drop_eq_getElem_cons hk,yf,List.take_add_one,N3 hk];rfl
theorem zbu {px sb lb pb:Nat}{av:Value}(B:Nat)(n:zv)(t:List Nat)(ow:Own)(era:Zx)(w:World)(hN:zx B px sb lb pb av n t ow w):
 Calls prog 103 #[.pointer (some ⟨B,0,none⟩),Jz era] w λr w'=>r=.returned (okV (yf era [] (JD n.pool (if(qY era.2.1).1=1 then 1 else 8)) ([],false)))/\Below w.heap.size w w':=by
 have hB:=hN.blk;unfold zz at hB;have e0:=hB.cell;have l0:=hB.lt;have hpr:=λW=>zaD era.2.1 W
 obtain⟨ep,ve,st⟩:=era;unfold Jz okV;simp only at hpr⊢;obtain⟨⟨q1,q2⟩,hq⟩:∃q,qY ve=q:=⟨_,rfl⟩;rw [hq] at hpr⊢;simp only at hpr⊢;obtain⟨mo,hmo⟩:∃mo:Nat,mo=(if q1=1 then 1 else 8):=⟨_,rfl⟩;rw [← hmo];have hm1:1<=mo/\mo<=64:=by rw [hmo];split<;>omega
 have hbat:=λW h=>zcU pb n.pool (t++ [3]) ow mo hm1.1 hm1.2 W h
 have hlen:(JD n.pool mo).length<=mo:=by unfold JD;rw [N7];omega
 obtain⟨l,hl⟩:∃l,JD n.pool mo=l:=⟨_,rfl⟩;rw [hl] at hbat hlen⊢;unfold V1 at hbat;have hpool:=hN.pool;replace hl:=G hl;replace hq:=G hq;replace hpr:=G hpr;replace hbat:=G hbat;have hkA:Blk (w.alloc (.cells #[.int .u32 ep,.int .i64 ve,.int .i64 st] 173)) w.heap.size #[.int .u32 ep,.int .i64 ve,.int .i64 st] 173:=Blk.new (by simp)
 by_cases h1:q1=1
 ·have t1:(q1==1)=true:=by simp [h1]
  rw [if_pos h1] at hmo;subst hmo;replace h1:=G h1
  go_enter func103,ntmps103
  go_wp2_with fail
  refine(hpr.out _).mono ?_;rintro r w1⟨rfl,hb1⟩;have hb1w:Below w.heap.size w w1:=pbx;have hB1:=hB.call hb1w;have kA1:=hkA.call hb1;have c1:=hB1.cell;go_wp2_with fail
  refine(hbat.out _ ((jO.loc pb n.pool (t++ [3])).below hpool hb1w)).mono ?_;rintro r w2⟨v,rfl,hb2,hrow2,hnew2⟩;have hb2w:=zf hb1w hb2;have kA2:=kA1.call hb2;obtain⟨va,vc,rfl⟩:=hrow2.src.shape;replace hrow2:=G hrow2;replace hnew2:=G hnew2;clear e0 l0 c1 hB1 kA1 hkA;go_wp2_with fail
  go_loopw [11,12,35] (λp11 p12 p35 wr=>∃(k:Nat)(x:List UInt8)(f:Bool),p11=.string (bs x)/\p12=.bool f/\p35=.int .i64 (k:Nat)/\k<=l.length/\Below w2.heap.size w2 wr/\yf (ep,ve,st) [] l ([],false)=yf (ep,ve,st) (l.take k) (l.drop k) (x,f)) (λ_ _ p35 _=>l.length - (intOf p35).toNat)
  case atStart=>exact⟨0,[],false,rfl,rfl,rfl,by omega,N2 _ _,rfl⟩
  case round=>
   obtain⟨k,x,f,rfl,rfl,rfl,hk,hbk,hbt⟩:=hrel
   by_cases hkl:k<l.length
   ·rw [JU (ep,ve,st) l hkl] at hbt
    have t2:decide ((k:Int)<(l.length:Int))=true:=by simpa using hkl
    have hwk:IntKind.i64.wrap ((k:Int)+1)=(k:Int)+1:=by rw [N8];omega
    obtain⟨g,hva,hcap⟩:∃g,va=some ⟨g,0,none⟩/\l.length<=vc:=by
     rcases hrow2.out.form with⟨h,h0, -⟩|⟨g,cap,h,h2, -⟩
     ·omega
     ·cases h;exact⟨g,rfl,h2⟩
    subst hva;have y0:(0:Int)<=(k:Int)+1:=by omega
    have y1:(k:Int)+1<=(vc:Int):=by omega
    have hcw:IntKind.i64.wrap (vc:Int)=(vc:Int):=by
     rcases hrow2.out.form with⟨h,h0, -⟩|⟨g,cap,h,h2,h3⟩
     ·omega
     ·cases h;unfold maxLen at h3;rw [N8];omega
    have kAk:=kA2.call hbk;have hsk:qc wr (.slice (some ⟨g,0,none⟩) (k+1) vc) (l.take (k+1)):=JT (hrow2.out.src.below hbk) (by omega);have hby:=λW h=>Yv ⟨1,ep,0,l.take (k+1)⟩ (.slice (some ⟨g,0,none⟩) (k+1) vc) W h (by show(l.take (k+1)).length<=_;rw [N7];omega)
    obtain⟨⟨y,b⟩,hy⟩:∃q,JG ⟨1,ep,0,l.take (k+1)⟩=q:=⟨_,rfl⟩;rw [hy] at hby hbt;unfold qW okV at hby;simp only at hby hbt;replace hby:=G hby;replace hy:=G hy;replace hbt:=G hbt;go_wp2_with fail
    refine zd [O 0,O 1,O 2,O 3,O 4,O 5,E 6,E 7,O 8,O 9,O 10,O 11,O 12] none (λw'=>Blk w' w.heap.size #[.int .u32 ep,.int .i64 ve,.int .i64 st] 173/\True) (by kernel_rfl) (by kernel_rfl) ⟨kAk.drew,trivial⟩ ?_
    (repeat (refine za (v:=?_) rfl rfl (λw' h=>?_) (λK k=>?_);rotate_left;obtain⟨f1,_⟩:=h;have e1:=f1.cell;go_simp;(try with_reducible rfl);go_simp;refine k _ ?_;clear k K))
    refine zc rfl (λK hK=>?_);go_wp2;refine hK.out _ _ (λ_=>⟨kAk.drew,trivial⟩) ?_;clear hK K;refine zc rfl (λK hK=>?_);go_wp2_with fail
    refine(hby.out _ (Src.below hsk (zo (N2 _ _)))).mono ?_;rintro r w4⟨rfl,hb4⟩;have hbk4:=zf (zo hbk) hb4;go_wp2;refine hK.out _ _ (λ_=>⟨kAk.drew.call hb4,trivial⟩) ?_;clear hK K
    (repeat (refine za (v:=?_) rfl rfl (λw' h=>?_) (λK k=>?_);rotate_left;obtain⟨f1,_⟩:=h;have e1:=f1.cell;go_simp;(try with_reducible rfl);go_simp;refine k _ ?_;clear k K))
    refine ze ?_
    cases b with
    |true=>
     go_wp2
     go_roundw
     case rel=>exact⟨k+1,y,true,rfl,rfl,by simp,by omega,hbk4,hbt.out⟩
     case measure=>simp [intOf];omega
    |false=>
     have hbw:Below w.heap.size w w4:=zf hb2w hbk4;go_wp2;go_ret2
     exact⟨by rw [hbt.out];rfl,hbw⟩
   ·obtain rfl:k=l.length:=by omega
    have t2:decide ((l.length:Int)<(l.length:Int))=false:=by simp
    rw [List.drop_length,yf] at hbt;have hbw:Below w.heap.size w wr:=zf hb2w hbk;replace hbt:=G hbt;go_wp2;go_ret2
    exact⟨by rw [hbt.out];rfl,hbw⟩
 ·have t1:(q1==1)=false:=by simpa using h1
  rw [if_neg h1] at hmo;subst hmo;replace h1:=G h1
  go_enter func103,ntmps103
  go_wp2_with fail
  refine(hpr.out _).mono ?_;rintro r w1⟨rfl,hb1⟩;have hb1w:Below w.heap.size w w1:=pbx;have hB1:=hB.call hb1w;have kA1:=hkA.call hb1;have c1:=hB1.cell;go_wp2_with fail
  refine(hbat.out _ ((jO.loc pb n.pool (t++ [3])).below hpool hb1w)).mono ?_;rintro r w2⟨v,rfl,hb2,hrow2,hnew2⟩;have hb2w:=zf hb1w hb2;have kA2:=kA1.call hb2;obtain⟨va,vc,rfl⟩:=hrow2.src.shape;replace hrow2:=G hrow2;replace hnew2:=G hnew2;clear e0 l0 c1 hB1 kA1 hkA;go_wp2_with fail
  go_loopw [11,12,35] (λp11 p12 p35 wr=>∃(k:Nat)(x:List UInt8)(f:Bool),p11=.string (bs x)/\p12=.bool f/\p35=.int .i64 (k:Nat)/\k<=l.length/\Below w2.heap.size w2 wr/\yf (ep,ve,st) [] l ([],false)=yf (ep,ve,st) (l.take k) (l.drop k) (x,f)) (λ_ _ p35 _=>l.length - (intOf p35).toNat)
  case atStart=>exact⟨0,[],false,rfl,rfl,rfl,by omega,N2 _ _,rfl⟩
  case round=>
   obtain⟨k,x,f,rfl,rfl,rfl,hk,hbk,hbt⟩:=hrel
   by_cases hkl:k<l.length
   ·rw [JU (ep,ve,st) l hkl] at hbt
    have t2:decide ((k:Int)<(l.length:Int))=true:=by simpa using hkl
    have hwk:IntKind.i64.wrap ((k:Int)+1)=(k:Int)+1:=by rw [N8];omega
    obtain⟨g,hva,hcap⟩:∃g,va=some ⟨g,0,none⟩/\l.length<=vc:=by
     rcases hrow2.out.form with⟨h,h0, -⟩|⟨g,cap,h,h2, -⟩
     ·omega
     ·cases h;exact⟨g,rfl,h2⟩
    subst hva;have y0:(0:Int)<=(k:Int)+1:=by omega
    have y1:(k:Int)+1<=(vc:Int):=by omega
    have hcw:IntKind.i64.wrap (vc:Int)=(vc:Int):=by
     rcases hrow2.out.form with⟨h,h0, -⟩|⟨g,cap,h,h2,h3⟩
     ·omega
     ·cases h;unfold maxLen at h3;rw [N8];omega
    have kAk:=kA2.call hbk;have hsk:qc wr (.slice (some ⟨g,0,none⟩) (k+1) vc) (l.take (k+1)):=JT (hrow2.out.src.below hbk) (by omega);have hby:=λW h=>Yv ⟨1,ep,0,l.take (k+1)⟩ (.slice (some ⟨g,0,none⟩) (k+1) vc) W h (by show(l.take (k+1)).length<=_;rw [N7];omega)
    obtain⟨⟨y,b⟩,hy⟩:∃q,JG ⟨1,ep,0,l.take (k+1)⟩=q:=⟨_,rfl⟩;rw [hy] at hby hbt;unfold qW okV at hby;simp only at hby hbt;replace hby:=G hby;replace hy:=G hy;replace hbt:=G hbt;go_wp2_with fail
    refine zd [O 0,O 1,O 2,O 3,O 4,O 5,E 6,E 7,O 8,O 9,O 10,O 11,O 12] none (λw'=>Blk w' w.heap.size #[.int .u32 ep,.int .i64 ve,.int .i64 st] 173/\True) (by kernel_rfl) (by kernel_rfl) ⟨kAk.drew,trivial⟩ ?_
    (repeat (refine za (v:=?_) rfl rfl (λw' h=>?_) (λK k=>?_);rotate_left;obtain⟨f1,_⟩:=h;have e1:=f1.cell;go_simp;(try with_reducible rfl);go_simp;refine k _ ?_;clear k K))
    refine zc rfl (λK hK=>?_);go_wp2;refine hK.out _ _ (λ_=>⟨kAk.drew,trivial⟩) ?_;clear hK K;refine zc rfl (λK hK=>?_);go_wp2_with fail
    refine(hby.out _ (Src.below hsk (zo (N2 _ _)))).mono ?_;rintro r w4⟨rfl,hb4⟩;have hbk4:=zf (zo hbk) hb4;go_wp2;refine hK.out _ _ (λ_=>⟨kAk.drew.call hb4,trivial⟩) ?_;clear hK K
    (repeat (refine za (v:=?_) rfl rfl (λw' h=>?_) (λK k=>?_);rotate_left;obtain⟨f1,_⟩:=h;have e1:=f1.cell;go_simp;(try with_reducible rfl);go_simp;refine k _ ?_;clear k K))
    refine ze ?_
    cases b with
    |true=>
     go_wp2
     go_roundw
     case rel=>exact⟨k+1,y,true,rfl,rfl,by simp,by omega,hbk4,hbt.out⟩
     case measure=>simp [intOf];omega
    |false=>
     have hbw:Below w.heap.size w w4:=zf hb2w hbk4;go_wp2;go_ret2
     exact⟨by rw [hbt.out];rfl,hbw⟩
   ·obtain rfl:k=l.length:=by omega
    have t2:decide ((l.length:Int)<(l.length:Int))=false:=by simp
    rw [List.drop_length,yf] at hbt;have hbw:Below w.heap.size w wr:=zf hb2w hbk;replace hbt:=G hbt;go_wp2;go_ret2
    exact⟨by rw [hbt.out];rfl,hbw⟩
theorem JV {px sb lb pb:Nat}{av:Value}(B:Nat)(n:zv)(t:List Nat)(ow:Own)(w:World)(hN:zx B px sb lb pb av n t ow w)(hl:n.loc.fold.eras.length<=536870912):
 Calls prog 75 #[.pointer (some ⟨B,0,none⟩)] w λr w'=>r=.returned (okV (yt n))/\Below w.heap.size w w':=by
 have hB:=hN.blk;have hr:=yV w hB
 have hpn:yt n=if n.down then([],false)
  else if n.loc.blk then JG ⟨3,(vC n.loc.fold.eras).1,0,[]⟩
  else if n.wanted≠0/\jW (vC n.loc.fold.eras).2.1 n.wanted=0 then JG ⟨2,(vC n.loc.fold.eras).1,n.wanted,[]⟩
  else yf (vC n.loc.fold.eras) [] (JD n.pool (if(qY (vC n.loc.fold.eras).2.1).1=1 then 1 else 8)) ([],false):=by
  have hp:(qY (vC n.loc.fold.eras).2.1).1=(if known (vC n.loc.fold.eras).2.1 then(if(vC n.loc.fold.eras).2.1=1 then(1:Int)else 2)else 0):=by
   unfold qY;split
   ·split<;>rfl
   ·rfl
  rw [hp];rfl
 have hera:=λW hW=>Ve lb n.loc (t++ [2]) ow W hW hl
 have hno:=λhb W hW=>zik lb n.loc (t++ [2]) ow W hW hb
 have hyes:=λhb W hW=>zgB lb n.loc (t++ [2]) ow W hW hb hl
 have hlo:=hN.lo;have hby:=λk ep v W=>Yv ⟨k,ep,v,[]⟩ (.slice none 0 0) W (zge _ _) (by simp)
 unfold zz at hB;unfold Zg at hr;have e0:=hB.cell;have l0:=hB.lt;obtain⟨⟨ep,ve,st⟩,hn⟩:∃x,vC n.loc.fold.eras=x:=⟨_,rfl⟩;rw [hn] at hera hpn hyes;have hbt:=λW (hb:Below w.heap.size w W)=>zbu B n t ow (ep,ve,st) W ((zx.loc B px sb lb pb av n t).below hN hb)
 unfold Jz at hera hbt;unfold okV qW at hby;unfold okV at hbt;simp only at hera hpn hyes hbt;obtain⟨BB,hBB⟩:∃q,yf (ep,ve,st) [] (JD n.pool (if(qY ve).1=1 then 1 else 8)) ([],false)=q:=⟨_,rfl⟩;rw [hBB] at hbt hpn;replace hBB:=G hBB;replace hera:=G hera;replace hn:=G hn;replace hlo:=G hlo;replace hbt:=G hbt;replace hby:=G hby;rw [hpn]
 by_cases hd:n.down=true
 ·rw [if_pos hd] at hpn⊢
  rw [hd] at hr;replace hpn:=G hpn;replace hr:=G hr;replace hd:=G hd
  go_enter func75,ntmps75
  go_wp2_with fail
  refine hr.out.mono ?_;rintro e w1⟨rfl,hw1⟩;obtain rfl:=hw1.symm;go_wp2;go_ret2
  exact⟨rfl,N2 _ _⟩
 ·have hd':n.down=false:=by simpa using hd
  rw [if_neg hd] at hpn⊢;rw [hd'] at hr;replace hr:=G hr;replace hd:=G hd;replace hd':=G hd'
  by_cases hbl:n.loc.blk=true
  ·have hasks:=hyes hbl
   rw [if_pos hbl] at hpn⊢;clear hyes hno;replace hasks:=G hasks;replace hpn:=G hpn;replace hbl:=G hbl
   go_enter func75,ntmps75
   go_wp2_with fail
   refine hr.out.mono ?_;rintro e w1⟨rfl,hw1⟩;obtain rfl:=hw1.symm;go_wp2_with fail
   refine(hasks.out _ hlo.out).mono ?_;rintro e w1⟨rfl,hb1⟩;go_wp2_with fail
   refine(hby.out 3 ep 0 _).mono ?_;rintro e w2⟨rfl,hb2⟩;go_wp2;go_ret2
   exact⟨rfl,pbx⟩
  ·have hbl':n.loc.blk=false:=by simpa using hbl
   have hasks:=hno hbl';rw [if_neg hbl] at hpn⊢;clear hyes hno;replace hasks:=G hasks;replace hbl:=G hbl;replace hbl':=G hbl'
   by_cases hw:n.wanted=0
   ·rw [if_neg (λh=>h.1 hw)] at hpn⊢
    have t2:(n.wanted !=0)=false:=by simp [hw]
    replace hpn:=G hpn;replace hw:=G hw
    go_enter func75,ntmps75
    go_wp2_with fail
    refine hr.out.mono ?_;rintro e w1⟨rfl,hw1⟩;obtain rfl:=hw1.symm;go_wp2_with fail
    refine(hasks.out _ hlo.out).mono ?_;rintro e w1⟨rfl,hb1⟩;have hbA:Below w.heap.size w (w1.alloc (.cells #[.int .i64 0,.int .u32 0,.int .i64 0,.slice none 0 0] 178)):=pbx;have cA:=(hB.call hbA).cell;go_wp2_with fail
    refine(hera.out _ ((zK.loc lb n.loc (t++ [2])).below hlo.out hbA)).mono ?_;rintro e w2⟨rfl,hb2⟩;obtain⟨W3,hW3⟩:∃W3,W3=(w2.alloc (.cells #[.int .u32 ep,.int .i64 ve,.int .i64 st] 173)).drew:=⟨_,rfl⟩;have hb3:Below w.heap.size w W3:=by rw [hW3];exact zo (zg (zf hbA hb2) _)
    have kE3:Blk W3 w2.heap.size #[.int .u32 ep,.int .i64 ve,.int .i64 st] 173:=by rw [hW3];exact bkx
    have kB3:=hB.call hb3;clear cA;go_wp2_with fail
    refine zd [O 0,O 1,O 2,O 3,O 4,O 5,O 6,O 7,O 8,O 9,O 10,O 11,E 12,O 13,O 14] none (λw'=>Blk w' B #[.pointer (some ⟨px,0,none⟩),.int .i64 n.id,.int .i64 n.version,.slice none 0 0,.pointer (some ⟨sb,0,none⟩),.pointer (some ⟨lb,0,none⟩),.pointer (some ⟨pb,0,none⟩),av,.int .i64 (n.offered:Nat),.int .i64 (n.applied:Nat),.int .i64 n.wanted,.bool n.down] 95/\Blk w' w2.heap.size #[.int .u32 ep,.int .i64 ve,.int .i64 st] 173/\True) (by kernel_rfl) (by kernel_rfl) (by rw [← hW3];exact⟨kB3,kE3,trivial⟩) ?_;rw [← hW3];clear hW3
    (repeat (refine za (v:=?_) rfl rfl (λw' h=>?_) (λK k=>?_);rotate_left;obtain⟨f1,f2,_⟩:=h;have e1:=f1.cell;have e2:=f2.cell;go_simp;(try with_reducible rfl);go_simp;refine k _ ?_;clear k K))
    (repeat (refine jh rfl rfl (λK hK=>?_);go_simp;refine hK _ ?_;clear hK K))
    refine zc rfl (λK hK=>?_);go_wp2;refine hK.out _ _ (λ_=>⟨kB3,kE3,trivial⟩) ?_;clear hK K
    (repeat (refine jh rfl rfl (λK hK=>?_);go_simp;refine hK _ ?_;clear hK K))
    (repeat (refine za (v:=?_) rfl rfl (λw' h=>?_) (λK k=>?_);rotate_left;obtain⟨f1,f2,_⟩:=h;have e1:=f1.cell;have e2:=f2.cell;go_simp;(try with_reducible rfl);go_simp;refine k _ ?_;clear k K))
    refine ze ?_;have cE:=(kE3).cell;go_wp2_with fail
    refine(hbt.out W3 hb3).mono ?_;rintro e w7⟨rfl,hb7⟩;have hb7w:=zf hb3 hb7;go_wp2;go_ret2
    exact⟨rfl,hb7w⟩
   ·have t2:(n.wanted !=0)=true:=by simpa using hw
    obtain⟨er,her⟩:∃er,jW ve n.wanted=er:=⟨_,rfl⟩;have hck:=λW=>xF ve n.wanted W
    rw [her] at hck;rw [her] at hpn⊢;replace her:=G her;replace hck:=G hck
    by_cases he:er=0
    ·rw [if_pos ⟨hw,he⟩] at hpn⊢
     subst he;replace hpn:=G hpn;replace hw:=G hw
     go_enter func75,ntmps75
     go_wp2_with fail
     refine hr.out.mono ?_;rintro e w1⟨rfl,hw1⟩;obtain rfl:=hw1.symm;go_wp2_with fail
     refine(hasks.out _ hlo.out).mono ?_;rintro e w1⟨rfl,hb1⟩;have hbA:Below w.heap.size w (w1.alloc (.cells #[.int .i64 0,.int .u32 0,.int .i64 0,.slice none 0 0] 178)):=pbx;have cA:=(hB.call hbA).cell;go_wp2_with fail
     refine(hera.out _ ((zK.loc lb n.loc (t++ [2])).below hlo.out hbA)).mono ?_;rintro e w2⟨rfl,hb2⟩;obtain⟨W3,hW3⟩:∃W3,W3=(w2.alloc (.cells #[.int .u32 ep,.int .i64 ve,.int .i64 st] 173)).drew:=⟨_,rfl⟩;have hb3:Below w.heap.size w W3:=by rw [hW3];exact zo (zg (zf hbA hb2) _)
     have kE3:Blk W3 w2.heap.size #[.int .u32 ep,.int .i64 ve,.int .i64 st] 173:=by rw [hW3];exact bkx
     have kB3:=hB.call hb3;clear cA;go_wp2_with fail
     refine zd [O 0,O 1,O 2,O 3,O 4,O 5,O 6,O 7,O 8,O 9,O 10,O 11,E 12,O 13,O 14] none (λw'=>Blk w' B #[.pointer (some ⟨px,0,none⟩),.int .i64 n.id,.int .i64 n.version,.slice none 0 0,.pointer (some ⟨sb,0,none⟩),.pointer (some ⟨lb,0,none⟩),.pointer (some ⟨pb,0,none⟩),av,.int .i64 (n.offered:Nat),.int .i64 (n.applied:Nat),.int .i64 n.wanted,.bool n.down] 95/\Blk w' w2.heap.size #[.int .u32 ep,.int .i64 ve,.int .i64 st] 173/\True) (by kernel_rfl) (by kernel_rfl) (by rw [← hW3];exact⟨kB3,kE3,trivial⟩) ?_;rw [← hW3];clear hW3
     (repeat (refine za (v:=?_) rfl rfl (λw' h=>?_) (λK k=>?_);rotate_left;obtain⟨f1,f2,_⟩:=h;have e1:=f1.cell;have e2:=f2.cell;go_simp;(try with_reducible rfl);go_simp;refine k _ ?_;clear k K))
     refine zc rfl (λK hK=>?_);go_wp2_with fail
     refine(hck.out _).mono ?_;rintro e w4⟨rfl,hb4⟩;have kB4:=kB3.call hb4;have kE4:=kE3.call hb4;have hb4w:=zf hb3 hb4;go_wp2;refine hK.out _ _ (λ_=>⟨kB4,kE4,trivial⟩) ?_;clear hK K
     (repeat (refine za (v:=?_) rfl rfl (λw' h=>?_) (λK k=>?_);rotate_left;obtain⟨f1,f2,_⟩:=h;have e1:=f1.cell;have e2:=f2.cell;go_simp;(try with_reducible rfl);go_simp;refine k _ ?_;clear k K))
     refine ze ?_;go_wp2_with fail
     refine zd [O 0,O 1,O 2,O 3,O 4,O 5,E 6,E 7,O 8,O 9,O 10,O 11] none (λw'=>Blk w' B #[.pointer (some ⟨px,0,none⟩),.int .i64 n.id,.int .i64 n.version,.slice none 0 0,.pointer (some ⟨sb,0,none⟩),.pointer (some ⟨lb,0,none⟩),.pointer (some ⟨pb,0,none⟩),av,.int .i64 (n.offered:Nat),.int .i64 (n.applied:Nat),.int .i64 n.wanted,.bool n.down] 95/\Blk w' w2.heap.size #[.int .u32 ep,.int .i64 ve,.int .i64 st] 173/\True) (by kernel_rfl) (by kernel_rfl) ⟨kB4.drew,kE4.drew,trivial⟩ ?_
     (repeat (refine za (v:=?_) rfl rfl (λw' h=>?_) (λK k=>?_);rotate_left;obtain⟨f1,f2,_⟩:=h;have e1:=f1.cell;have e2:=f2.cell;go_simp;(try with_reducible rfl);go_simp;refine k _ ?_;clear k K))
     refine zc rfl (λK hK=>?_);go_wp2;refine hK.out _ _ (λ_=>⟨kB4.drew,kE4.drew,trivial⟩) ?_;clear hK K;refine zc rfl (λK hK=>?_);go_wp2_with fail
     refine(hby.out 2 ep n.wanted _).mono ?_;rintro e w5⟨rfl,hb5⟩;go_wp2;refine hK.out _ _ (λ_=>⟨kB4.drew.call hb5,kE4.drew.call hb5,trivial⟩) ?_;clear hK K
     (repeat (refine za (v:=?_) rfl rfl (λw' h=>?_) (λK k=>?_);rotate_left;obtain⟨f1,f2,_⟩:=h;have e1:=f1.cell;have e2:=f2.cell;go_simp;(try with_reducible rfl);go_simp;refine k _ ?_;clear k K))
     refine ze ?_;have hb5w:=zf (zo hb4w) hb5;go_wp2;go_ret2
     exact⟨rfl,hb5w⟩
    ·rw [if_neg (λh=>he h.2)] at hpn⊢
     have t3:(er==0)=false:=by simpa using he
     replace hpn:=G hpn;replace hw:=G hw;replace he:=G he
     go_enter func75,ntmps75
     go_wp2_with fail
     refine hr.out.mono ?_;rintro e w1⟨rfl,hw1⟩;obtain rfl:=hw1.symm;go_wp2_with fail
     refine(hasks.out _ hlo.out).mono ?_;rintro e w1⟨rfl,hb1⟩;have hbA:Below w.heap.size w (w1.alloc (.cells #[.int .i64 0,.int .u32 0,.int .i64 0,.slice none 0 0] 178)):=pbx;have cA:=(hB.call hbA).cell;go_wp2_with fail
     refine(hera.out _ ((zK.loc lb n.loc (t++ [2])).below hlo.out hbA)).mono ?_;rintro e w2⟨rfl,hb2⟩;obtain⟨W3,hW3⟩:∃W3,W3=(w2.alloc (.cells #[.int .u32 ep,.int .i64 ve,.int .i64 st] 173)).drew:=⟨_,rfl⟩;have hb3:Below w.heap.size w W3:=by rw [hW3];exact zo (zg (zf hbA hb2) _)
     have kE3:Blk W3 w2.heap.size #[.int .u32 ep,.int .i64 ve,.int .i64 st] 173:=by rw [hW3];exact bkx
     have kB3:=hB.call hb3;clear cA;go_wp2_with fail
     refine zd [O 0,O 1,O 2,O 3,O 4,O 5,O 6,O 7,O 8,O 9,O 10,O 11,E 12,O 13,O 14] none (λw'=>Blk w' B #[.pointer (some ⟨px,0,none⟩),.int .i64 n.id,.int .i64 n.version,.slice none 0 0,.pointer (some ⟨sb,0,none⟩),.pointer (some ⟨lb,0,none⟩),.pointer (some ⟨pb,0,none⟩),av,.int .i64 (n.offered:Nat),.int .i64 (n.applied:Nat),.int .i64 n.wanted,.bool n.down] 95/\Blk w' w2.heap.size #[.int .u32 ep,.int .i64 ve,.int .i64 st] 173/\True) (by kernel_rfl) (by kernel_rfl) (by rw [← hW3];exact⟨kB3,kE3,trivial⟩) ?_;rw [← hW3];clear hW3
     (repeat (refine za (v:=?_) rfl rfl (λw' h=>?_) (λK k=>?_);rotate_left;obtain⟨f1,f2,_⟩:=h;have e1:=f1.cell;have e2:=f2.cell;go_simp;(try with_reducible rfl);go_simp;refine k _ ?_;clear k K))
     refine zc rfl (λK hK=>?_);go_wp2_with fail
     refine(hck.out _).mono ?_;rintro e w4⟨rfl,hb4⟩;have kB4:=kB3.call hb4;have kE4:=kE3.call hb4;have hb4w:=zf hb3 hb4;go_wp2;refine hK.out _ _ (λ_=>⟨kB4,kE4,trivial⟩) ?_;clear hK K
     (repeat (refine za (v:=?_) rfl rfl (λw' h=>?_) (λK k=>?_);rotate_left;obtain⟨f1,f2,_⟩:=h;have e1:=f1.cell;have e2:=f2.cell;go_simp;(try with_reducible rfl);go_simp;refine k _ ?_;clear k K))
     refine ze ?_;have cE:=(kE4).cell;go_wp2_with fail
     refine(hbt.out w4 hb4w).mono ?_;rintro e w7⟨rfl,hb7⟩;have hb7w:=zf hb4w hb7;go_wp2;go_ret2
     exact⟨rfl,hb7w⟩
theorem zab(n:zv)(d:List UInt8):(jc n d).1.pax=n.pax:=by
 unfold jc
 split
 ·rfl
 ·split
  ·rfl
  ·split
   ·rfl
   ·exact(vu _ _).1.pax
theorem XQ(p:xl)(i:Int)(b:Nat):(zB p i b).1.known=p.known:=by
 unfold zB
 split
 ·rfl
 ·split<;>rfl
theorem zc2(p:xl)(i:Int)(b:Nat)(x:List UInt8):(vH p i b x).1.known=p.known:=by
 unfold vH
 split
 ·rfl
 ·split<;>rfl
theorem zac(n:zv)(i:Int)(b:Nat):(j6 n i b).1.pax.known=n.pax.known:=by
 unfold j6
 split
 ·rfl
 ·split
  ·rfl
  ·split<;>exact XQ _ _ _
theorem Qt(n:zv)(i:Int)(b:Nat)(x:List UInt8):(JE n i b x).1.pax.known=n.pax.known:=by
 unfold JE
 split
 ·rfl
 ·split
  ·rfl
  ·exact zc2 _ _ _ _
theorem Zk(n:zv)(i:Int)(x:List UInt8)(h:yk n.pax.known):yk (qr n i x).1.pax.known:=by
 have hk:=(Z2 (p:=n.pax) i x).2.1 h;unfold qr
 split
 ·exact h
 ·simp only
  split
  ·exact h
  ·split
   ·rw [(yT _ _).pax];exact hk
   ·split
    ·exact hk
    ·rw [(yT _ _).pax];exact hk
theorem XR(n:zv)(s:StD):yk (yN n s).pax.known:=by
 unfold yN;simp only
 show yk (j2 _ _).pax.known
 rw [(vu _ _).1.pax,(yT _ _).pax];exact(Qs {n with store:=(jq n.store).1} s _).2.1
structure yz(v:Int)(n:zv):Prop where
 ok:zbi (zp v) n
 known:yk n.pax.known
 ver:n.version=v
theorem yz.does {v:Int}{n:zv}(h:yz v n)(x:zkc)(hb:x.b<18446744073709551616):yz v (zcI (zp v) n x):=by
 refine⟨zjI h.ok x hb,?_,?_⟩
 ·have hk:=h.known
  unfold zcI
  split
  ·rw [zab];exact hk
  split
  ·rw [zac];exact hk
  split
  ·rw [Qt];exact hk
  split
  ·exact Zk _ _ _ hk
  split
  ·unfold Z1;split
   ·exact hk
   ·split<;>exact hk
  split
  ·unfold zcu;split<;>exact hk
  split
  ·unfold xN;split<;>exact hk
  split
  ·exact XR _ _
  split
  ·exact Zk _ _ _ hk
  ·exact hk
 ·obtain⟨⟨l,hi⟩, -⟩:=h.ok
  obtain⟨l',hs⟩:=zbg hi x hb;exact hs.same.2.1.trans h.ver
theorem yz.broadcast {v:Int}{n:zv}(h:yz v n)(d:List UInt8)(hd:d.length<=300):yz v (jc n d).1:=by
 have:=h.does ⟨0,0,0,d⟩ (by simp)
 rwa [show zcI (zp v) n ⟨0,0,0,d⟩=(jc n (zbe ⟨0,0,0,d⟩)).1 from rfl,show zbe ⟨0,0,0,d⟩=d from List.take_of_length_le hd] at this
theorem yz.promise {v:Int}{n:zv}(h:yz v n)(i:Int)(b:Nat)(hb:b<18446744073709551616):yz v (j6 n i b).1:=h.does ⟨1,i,b,[]⟩ hb
theorem yz.want {v:Int}{n:zv}(h:yz v n)(i:Int):yz v (Z1 n i).1:=h.does ⟨4,i,0,[]⟩ (by simp)
theorem yz.cut {v:Int}{n:zv}(h:yz v n)(i:Int):yz v (zcu n i).1:=h.does ⟨5,i,0,[]⟩ (by simp)
theorem yz.crash {v:Int}{n:zv}(h:yz v n):yz v (xN n).1:=h.does ⟨6,0,0,[]⟩ (by simp)
theorem yz.recover {v:Int}{n:zv}(h:yz v n):yz v (yN n (zp v)):=h.does ⟨7,0,0,[]⟩ (by simp)
theorem yz.new {v id cap:Int}(h1:64<=cap)(h2:cap<=1048576):yz v (zhU id v cap [] (zp v)):=
 ⟨⟨⟨[],ziu id v cap [] (zp v)⟩,zbh h1 h2⟩,λi x h=>by simp [zhU,qe,zJ] at h,rfl⟩
def more(F:Nat->Prop)(W W':World):Nat->Prop:=λk=>F k∨(W.heap.size<=k/\k<W'.heap.size)
variable {w W W':World}{F:Nat->Prop}{B:Nat}{n:zv}{a:Addr}{v:Int}
