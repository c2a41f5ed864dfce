/- PARTS OF THE PROOF. -/
import Derived.Test.YtofppfoioodblaaGreatDoorDA22
set_option maxRecDepth 8000
set_option maxHeartbeats 4000000
open Go.Proofs.Tryz
namespace Go.Proofs.YtofppfoioodblaaGreatDoor
section
open Go Go.RowKit Go.Shelf Go.Extern.Stop Go.Stop Go.Extern
attribute [local go_sem] Oper.semAt_some zB zo
def okV(r:List UInt8×Bool):Value:=.tuple #[.string (bs r.1),.bool r.2]
theorem zaq(e:jz)(mv:Value)(w:World)(hm:qO w mv e.msgs)(hl:e.msgs.length<=1073741824):Calls prog 141 #[ZS e mv] w λr w'=>r=.returned (okV (ZZ e))/\Below w.heap.size w w':=by
 have aa:=λW h=>Y7 e mv W h hl
 have ab:=Src.below hm ((N2 w.heap.size w).alloc (N0 _) (.cells #[.int .i64 e.kind,.int .u32 e.epoch,.int .i64 e.ver,mv] 241));unfold ZZ okV;obtain⟨⟨x,er⟩,hx⟩:∃q,ju e=q:=⟨_,rfl⟩;rw [hx] at aa⊢;unfold ZS at aa⊢;simp only at aa⊢
 obtain⟨ma,mn,mc,rfl⟩:∃a n c,mv=.slice a n c:=by
  rcases hm.2 with⟨rfl, -⟩|⟨b,off,cap,rfl, -⟩
  ·exact⟨_,_,_,rfl⟩
  exact⟨_,_,_,rfl⟩
 replace aa:=hid aa;replace hx:=hid hx
 by_cases her:er=0
 subst her
 rotate_left
 have t1:(er==0)=false:=by simpa using her
 rw [show decide (er=0)=false by simpa using her];replace her:=hid her
 all_goals
  go_enter func141,ntmps141
  go_wp2_with fail
  refine(aa.out _ ab).mono ?_;rintro r w1⟨rfl,ac⟩;go_wp2;go_ret2
  exact⟨rfl,pbx⟩
theorem zbl {W:World}{l:List zx}{b off cap:Nat}(h:Src W (.slice (some ⟨b,off,none⟩) l.length cap) 3 l.length (l.flatMap zh)){k:Nat}(hk:k<=l.length):qO W (.slice (some ⟨b,off,none⟩) k cap) (l.take k):=by
 have aa:(l.take k).length=k:=by rw [N7];omega
 rcases h.2 with⟨h, -⟩|⟨b',off',cap',h,hc,hr⟩
 ·cases h
 cases h
 show Src W _ 3 (l.take k).length _
 rw [aa];refine⟨?_,.inr ⟨b,off,cap,rfl,by omega,λj u hu=>?_⟩⟩
 ·rw [zbZ,aa]
 refine hr j u ?_
 have ab:l.flatMap zh=(l.take k).flatMap zh++(l.drop k).flatMap zh:=by rw [← U5,List.take_append_drop]
 rw [ab,U8 (N6.1 hu).1];exact hu
theorem zbm(era:ZJ)(l:List zx){k:Nat}(hk:k<l.length)(r:List UInt8×Bool):yn era (l.take k) (l.drop k) r=if(ZZ ⟨1,era.1,0,l.take (k+1)⟩).2 then yn era (l.take (k+1)) (l.drop (k+1)) (ZZ ⟨1,era.1,0,l.take (k+1)⟩)else r:=by
 rw [List.drop_eq_getElem_cons hk,yn,List.take_add_one,N3 hk];rfl
theorem zcV {px sb lb pb:Nat}{av:Value}(B:Nat)(n:zq)(t:List Nat)(ow:Own)(era:ZJ)(w:World)(hN:zw B px sb lb pb av n t ow w):
 Calls prog 142 #[.pointer (some ⟨B,0,none⟩),Yh era] w λr w'=>r=.returned (okV (yn era [] (ZX n.pool (if(ZL era.2.1).1=1 then 1 else 8)) ([],false)))/\Below w.heap.size w w':=by
 have hB:=hN.blk;unfold zD at hB;have e0:=hB.cell;have l0:=hB.lt;have ag:=λW=>zbP era.2.1 W
 obtain⟨ep,ve,st⟩:=era;unfold Yh okV;simp only at ag⊢;obtain⟨⟨q1,q2⟩,hq⟩:∃q,ZL ve=q:=⟨_,rfl⟩;rw [hq] at ag⊢;simp only at ag⊢;obtain⟨mo,ah⟩:∃mo:Nat,mo=(if q1=1 then 1 else 8):=⟨_,rfl⟩;rw [← ah];have au:1<=mo/\mo<=64:=by rw [ah];split<;>omega
 have ac:=λW h=>zen pb n.pool (t++ [3]) ow mo au.1 au.2 W h
 have ao:(ZX n.pool mo).length<=mo:=by unfold ZX;rw [N7];omega
 obtain⟨l,hl⟩:∃l,ZX n.pool mo=l:=⟨_,rfl⟩;rw [hl] at ac ao⊢;unfold XW at ac;have aj:=hN.pool;replace hl:=hid hl;replace hq:=hid hq;replace ag:=hid ag;replace ac:=hid ac;have ar:Blk (w.alloc (.cells #[.int .u32 ep,.int .i64 ve,.int .i64 st] 197)) w.heap.size #[.int .u32 ep,.int .i64 ve,.int .i64 st] 197:=Blk.new (by simp)
 by_cases h1:q1=1
 have t1:(q1==1)=true:=by simp [h1]
 rw [if_pos h1] at ah;subst ah;replace h1:=hid h1
 rotate_left
 have t1:(q1==1)=false:=by simpa using h1
 rw [if_neg h1] at ah;subst ah;replace h1:=hid h1
 all_goals
  go_enter func142,ntmps142
  go_wp2_with fail
  refine(ag.out _).mono ?_;rintro r w1⟨rfl,a0⟩;have ae:Below w.heap.size w w1:=pbx;have aw:=hB.call ae;have ax:=ar.call a0;have c1:=aw.cell;go_wp2_with fail
  refine(ac.out _ ((jY.loc pb n.pool (t++ [3])).below aj ae)).mono ?_;rintro r w2⟨v,rfl,ap,aa,ad⟩;have ai:=ze ae ap;have a1:=ax.call ap;obtain⟨va,vc,rfl⟩:=aa.src.shape;replace aa:=hid aa;replace ad:=hid ad;clear e0 l0 c1 aw ax ar;go_wp2_with fail
  go_loopw [11,12,35] (λp11 p12 p35 wr=>∃(k:Nat)(x:List UInt8)(f:Bool),p11=.string (bs x)/\p12=.bool f/\p35=.int .i64 (k:Nat)/\k<=l.length/\Below w2.heap.size w2 wr/\yn (ep,ve,st) [] l ([],false)=yn (ep,ve,st) (l.take k) (l.drop k) (x,f)) (λ_ _ p35 _=>l.length - (intOf p35).toNat)
  case atStart=>exact⟨0,[],false,rfl,rfl,rfl,by omega,N2 _ _,rfl⟩
  case round=>
   obtain⟨k,x,f,rfl,rfl,rfl,hk,al,ab⟩:=hrel
   by_cases hkl:k<l.length
   ·rw [zbm (ep,ve,st) l hkl] at ab
    have t2:decide ((k:Int)<(l.length:Int))=true:=by simpa using hkl
    have a4:IntKind.i64.wrap ((k:Int)+1)=(k:Int)+1:=by rw [N8];omega
    obtain⟨g,az,a2⟩:∃g,va=some ⟨g,0,none⟩/\l.length<=vc:=by
     rcases aa.out.form with⟨h,h0, -⟩|⟨g,cap,h,h2, -⟩
     ·omega
     cases h;exact⟨g,rfl,h2⟩
    subst az;have y0:(0:Int)<=(k:Int)+1:=by omega
    have y1:(k:Int)+1<=(vc:Int):=by omega
    have a3:IntKind.i64.wrap (vc:Int)=(vc:Int):=by
     rcases aa.out.form with⟨h,h0, -⟩|⟨g,cap,h,h2,h3⟩
     ·omega
     cases h;unfold maxLen at h3;rw [N8];omega
    have an:=a1.call al;have ay:qO wr (.slice (some ⟨g,0,none⟩) (k+1) vc) (l.take (k+1)):=zbl (aa.out.src.below al) (by omega);have af:=λW h=>zaq ⟨1,ep,0,l.take (k+1)⟩ (.slice (some ⟨g,0,none⟩) (k+1) vc) W h (by show(l.take (k+1)).length<=_;rw [N7];omega)
    obtain⟨⟨y,b⟩,hy⟩:∃q,ZZ ⟨1,ep,0,l.take (k+1)⟩=q:=⟨_,rfl⟩;rw [hy] at af ab;unfold ZS okV at af;simp only at af ab;replace af:=hid af;replace hy:=hid hy;replace ab:=hid ab;go_wp2_with fail
    refine zd [O 0,O 1,O 2,O 3,O 4,O 5,E 6,E 7,O 8,O 9,O 10,O 11,O 12] none (λw'=>Blk w' w.heap.size #[.int .u32 ep,.int .i64 ve,.int .i64 st] 197/\True) (by kernel_rfl) (by kernel_rfl) ⟨an.drew,trivial⟩ ?_
    refine Wd ?_
    refine zc rfl (λK hK=>?_);go_wp2;refine hK.out _ _ (λ_=>⟨an.drew,trivial⟩) ?_;clear hK K;refine zc rfl (λK hK=>?_);go_wp2_with fail
    refine(af.out _ (Src.below ay (zm (N2 _ _)))).mono ?_;rintro r w4⟨rfl,aq⟩;have ak:=ze (zm al) aq;go_wp2;refine hK.out _ _ (λ_=>⟨an.drew.call aq,trivial⟩) ?_;clear hK K
    refine Wd ?_
    refine zg ?_
    cases b with
    |true=>
     go_wp2
     go_roundw
     case rel=>exact⟨k+1,y,true,rfl,rfl,by simp,by omega,ak,ab.out⟩
     case measure=>simp [intOf];omega
    |false=>
     have am:Below w.heap.size w w4:=ze ai ak;go_wp2;go_ret2
     exact⟨by rw [ab.out];rfl,am⟩
   obtain rfl:k=l.length:=by omega
   have t2:decide ((l.length:Int)<(l.length:Int))=false:=by simp
   rw [List.drop_length,yn] at ab;have am:Below w.heap.size w wr:=ze ai al;replace ab:=hid ab;go_wp2;go_ret2
   exact⟨by rw [ab.out];rfl,am⟩
theorem YM {px sb lb pb:Nat}{av:Value}(B:Nat)(n:zq)(t:List Nat)(ow:Own)(w:World)(hN:zw B px sb lb pb av n t ow w)(hl:n.loc.fold.eras.length<=536870912):
 Calls prog 96 #[.pointer (some ⟨B,0,none⟩)] w λr w'=>r=.returned (okV (jN n))/\Below w.heap.size w w':=by
 have hB:=hN.blk;have hr:=xu w hB
 have ab:jN n=if n.down then([],false)
  else if n.loc.blk then ZZ ⟨3,(vo n.loc.fold.eras).1,0,[]⟩
  else if n.wanted≠0/\j4 (vo n.loc.fold.eras).2.1 n.wanted=0 then ZZ ⟨2,(vo n.loc.fold.eras).1,n.wanted,[]⟩
  else yn (vo n.loc.fold.eras) [] (ZX n.pool (if(ZL (vo n.loc.fold.eras).2.1).1=1 then 1 else 8)) ([],false):=by
  have hp:(ZL (vo n.loc.fold.eras).2.1).1=(if known (vo n.loc.fold.eras).2.1 then(if(vo n.loc.fold.eras).2.1=1 then(1:Int)else 2)else 0):=by
   unfold ZL;split
   ·split<;>rfl
   rfl
  rw [hp];rfl
 have ad:=λW hW=>V4 lb n.loc (t++ [2]) ow W hW hl
 have a5:=λhb W hW=>zjY lb n.loc (t++ [2]) ow W hW hb
 have af:=λhb W hW=>zhV lb n.loc (t++ [2]) ow W hW hb hl
 have ai:=hN.lo;have ax:=λk ep v W=>zaq ⟨k,ep,v,[]⟩ (.slice none 0 0) W (zld _ _) (by simp)
 unfold zD at hB;unfold Yp at hr;have e0:=hB.cell;have l0:=hB.lt;obtain⟨⟨ep,ve,st⟩,hn⟩:∃x,vo n.loc.fold.eras=x:=⟨_,rfl⟩;rw [hn] at ad ab af;have al:=λW (hb:Below w.heap.size w W)=>zcV B n t ow (ep,ve,st) W ((zw.loc B px sb lb pb av n t).below hN hb)
 unfold Yh at ad al;unfold okV ZS at ax;unfold okV at al;simp only at ad ab af al;obtain⟨BB,a1⟩:∃q,yn (ep,ve,st) [] (ZX n.pool (if(ZL ve).1=1 then 1 else 8)) ([],false)=q:=⟨_,rfl⟩;rw [a1] at al ab;replace a1:=hid a1;replace ad:=hid ad;replace hn:=hid hn;replace ai:=hid ai;replace al:=hid al;replace ax:=hid ax;rw [ab]
 by_cases hd:n.down=true
 ·rw [if_pos hd] at ab⊢
  rw [hd] at hr;replace ab:=hid ab;replace hr:=hid hr;replace hd:=hid hd
  go_enter func96,ntmps96
  go_wp2_with fail
  refine hr.out.mono ?_;rintro e w1⟨rfl,ag⟩;obtain rfl:=ag.symm;go_wp2;go_ret2
  exact⟨rfl,N2 _ _⟩
 have a0:n.down=false:=by simpa using hd
 rw [if_neg hd] at ab⊢;rw [a0] at hr;replace hr:=hid hr;replace hd:=hid hd;replace a0:=hid a0
 by_cases hbl:n.loc.blk=true
 ·have aa:=af hbl
  rw [if_pos hbl] at ab⊢;clear af a5;replace aa:=hid aa;replace ab:=hid ab;replace hbl:=hid hbl
  go_enter func96,ntmps96
  go_wp2_with fail
  refine hr.out.mono ?_;rintro e w1⟨rfl,ag⟩;obtain rfl:=ag.symm;go_wp2_with fail
  refine(aa.out _ ai.out).mono ?_;rintro e w1⟨rfl,a2⟩;go_wp2_with fail
  refine(ax.out 3 ep 0 _).mono ?_;rintro e w2⟨rfl,ar⟩;go_wp2;go_ret2
  exact⟨rfl,pbx⟩
 have aq:n.loc.blk=false:=by simpa using hbl
 have aa:=a5 aq;rw [if_neg hbl] at ab⊢;clear af a5;replace aa:=hid aa;replace hbl:=hid hbl;replace aq:=hid aq
 by_cases hw:n.wanted=0
 ·rw [if_neg (λh=>h.1 hw)] at ab⊢
  have t2:(n.wanted !=0)=false:=by simp [hw]
  replace ab:=hid ab;replace hw:=hid hw
  go_enter func96,ntmps96
  go_wp2_with fail
  refine hr.out.mono ?_;rintro e w1⟨rfl,ag⟩;obtain rfl:=ag.symm;go_wp2_with fail
  refine(aa.out _ ai.out).mono ?_;rintro e w1⟨rfl,a2⟩;have ae:Below w.heap.size w (w1.alloc (.cells #[.int .i64 0,.int .u32 0,.int .i64 0,.slice none 0 0] 241)):=pbx;have cA:=(hB.call ae).cell;go_wp2_with fail
  refine(ad.out _ ((zL.loc lb n.loc (t++ [2])).below ai.out ae)).mono ?_;rintro e w2⟨rfl,ar⟩;obtain⟨W3,ac⟩:∃W3,W3=(w2.alloc (.cells #[.int .u32 ep,.int .i64 ve,.int .i64 st] 197)).drew:=⟨_,rfl⟩;have ak:Below w.heap.size w W3:=by rw [ac];exact zm (zi (ze ae ar) _)
  have ah:Blk W3 w2.heap.size #[.int .u32 ep,.int .i64 ve,.int .i64 st] 197:=by rw [ac];exact bkx
  have am:=hB.call ak;clear cA;go_wp2_with fail
  refine zd [O 0,O 1,O 2,O 3,O 4,O 5,O 6,O 7,O 8,O 9,O 10,O 11,E 12,O 13,O 14] none (λw'=>Blk w' B #[.pointer (some ⟨px,0,none⟩),.int .i64 n.id,.int .i64 n.version,.slice none 0 0,.pointer (some ⟨sb,0,none⟩),.pointer (some ⟨lb,0,none⟩),.pointer (some ⟨pb,0,none⟩),av,.int .i64 (n.offered:Nat),.int .i64 (n.applied:Nat),.int .i64 n.wanted,.bool n.down] 98/\Blk w' w2.heap.size #[.int .u32 ep,.int .i64 ve,.int .i64 st] 197/\True) (by kernel_rfl) (by kernel_rfl) (by rw [← ac];exact⟨am,ah,trivial⟩) ?_;rw [← ac];clear ac
  refine Wb ?_
  refine Wm ?_
  refine zc rfl (λK hK=>?_);go_wp2;refine hK.out _ _ (λ_=>⟨am,ah,trivial⟩) ?_;clear hK K
  refine Wm ?_
  refine Wb ?_
  refine zg ?_;have cE:=(ah).cell;go_wp2_with fail
  refine(al.out W3 ak).mono ?_;rintro e w7⟨rfl,az⟩;have an:=ze ak az;go_wp2;go_ret2
  exact⟨rfl,an⟩
 have t2:(n.wanted !=0)=true:=by simpa using hw
 obtain⟨er,ay⟩:∃er,j4 ve n.wanted=er:=⟨_,rfl⟩;have aw:=λW=>qc ve n.wanted W
 rw [ay] at aw;rw [ay] at ab⊢;replace ay:=hid ay;replace aw:=hid aw
 by_cases he:er=0
 ·rw [if_pos ⟨hw,he⟩] at ab⊢
  subst he;replace ab:=hid ab;replace hw:=hid hw
  go_enter func96,ntmps96
  go_wp2_with fail
  refine hr.out.mono ?_;rintro e w1⟨rfl,ag⟩;obtain rfl:=ag.symm;go_wp2_with fail
  refine(aa.out _ ai.out).mono ?_;rintro e w1⟨rfl,a2⟩;have ae:Below w.heap.size w (w1.alloc (.cells #[.int .i64 0,.int .u32 0,.int .i64 0,.slice none 0 0] 241)):=pbx;have cA:=(hB.call ae).cell;go_wp2_with fail
  refine(ad.out _ ((zL.loc lb n.loc (t++ [2])).below ai.out ae)).mono ?_;rintro e w2⟨rfl,ar⟩;obtain⟨W3,ac⟩:∃W3,W3=(w2.alloc (.cells #[.int .u32 ep,.int .i64 ve,.int .i64 st] 197)).drew:=⟨_,rfl⟩;have ak:Below w.heap.size w W3:=by rw [ac];exact zm (zi (ze ae ar) _)
  have ah:Blk W3 w2.heap.size #[.int .u32 ep,.int .i64 ve,.int .i64 st] 197:=by rw [ac];exact bkx
  have am:=hB.call ak;clear cA;go_wp2_with fail
  refine zd [O 0,O 1,O 2,O 3,O 4,O 5,O 6,O 7,O 8,O 9,O 10,O 11,E 12,O 13,O 14] none (λw'=>Blk w' B #[.pointer (some ⟨px,0,none⟩),.int .i64 n.id,.int .i64 n.version,.slice none 0 0,.pointer (some ⟨sb,0,none⟩),.pointer (some ⟨lb,0,none⟩),.pointer (some ⟨pb,0,none⟩),av,.int .i64 (n.offered:Nat),.int .i64 (n.applied:Nat),.int .i64 n.wanted,.bool n.down] 98/\Blk w' w2.heap.size #[.int .u32 ep,.int .i64 ve,.int .i64 st] 197/\True) (by kernel_rfl) (by kernel_rfl) (by rw [← ac];exact⟨am,ah,trivial⟩) ?_;rw [← ac];clear ac
  refine Wb ?_
  refine zc rfl (λK hK=>?_);go_wp2_with fail
  refine(aw.out _).mono ?_;rintro e w4⟨rfl,ao⟩;have au:=am.call ao;have ap:=ah.call ao;have aj:=ze ak ao;go_wp2;refine hK.out _ _ (λ_=>⟨au,ap,trivial⟩) ?_;clear hK K
  refine Wb ?_
  refine zg ?_;go_wp2_with fail
  refine zd [O 0,O 1,O 2,O 3,O 4,O 5,E 6,E 7,O 8,O 9,O 10,O 11] none (λw'=>Blk w' B #[.pointer (some ⟨px,0,none⟩),.int .i64 n.id,.int .i64 n.version,.slice none 0 0,.pointer (some ⟨sb,0,none⟩),.pointer (some ⟨lb,0,none⟩),.pointer (some ⟨pb,0,none⟩),av,.int .i64 (n.offered:Nat),.int .i64 (n.applied:Nat),.int .i64 n.wanted,.bool n.down] 98/\Blk w' w2.heap.size #[.int .u32 ep,.int .i64 ve,.int .i64 st] 197/\True) (by kernel_rfl) (by kernel_rfl) ⟨au.drew,ap.drew,trivial⟩ ?_
  refine Wb ?_
  refine zc rfl (λK hK=>?_);go_wp2;refine hK.out _ _ (λ_=>⟨au.drew,ap.drew,trivial⟩) ?_;clear hK K;refine zc rfl (λK hK=>?_);go_wp2_with fail
  refine(ax.out 2 ep n.wanted _).mono ?_;rintro e w5⟨rfl,a4⟩;go_wp2;refine hK.out _ _ (λ_=>⟨au.drew.call a4,ap.drew.call a4,trivial⟩) ?_;clear hK K
  refine Wb ?_
  refine zg ?_;have a3:=ze (zm aj) a4;go_wp2;go_ret2
  exact⟨rfl,a3⟩
 rw [if_neg (λh=>he h.2)] at ab⊢
 have t3:(er==0)=false:=by simpa using he
 replace ab:=hid ab;replace hw:=hid hw;replace he:=hid he
 go_enter func96,ntmps96
 go_wp2_with fail
 refine hr.out.mono ?_;rintro e w1⟨rfl,ag⟩;obtain rfl:=ag.symm;go_wp2_with fail
 refine(aa.out _ ai.out).mono ?_;rintro e w1⟨rfl,a2⟩;have ae:Below w.heap.size w (w1.alloc (.cells #[.int .i64 0,.int .u32 0,.int .i64 0,.slice none 0 0] 241)):=pbx;have cA:=(hB.call ae).cell;go_wp2_with fail
 refine(ad.out _ ((zL.loc lb n.loc (t++ [2])).below ai.out ae)).mono ?_;rintro e w2⟨rfl,ar⟩;obtain⟨W3,ac⟩:∃W3,W3=(w2.alloc (.cells #[.int .u32 ep,.int .i64 ve,.int .i64 st] 197)).drew:=⟨_,rfl⟩;have ak:Below w.heap.size w W3:=by rw [ac];exact zm (zi (ze ae ar) _)
 have ah:Blk W3 w2.heap.size #[.int .u32 ep,.int .i64 ve,.int .i64 st] 197:=by rw [ac];exact bkx
 have am:=hB.call ak;clear cA;go_wp2_with fail
 refine zd [O 0,O 1,O 2,O 3,O 4,O 5,O 6,O 7,O 8,O 9,O 10,O 11,E 12,O 13,O 14] none (λw'=>Blk w' B #[.pointer (some ⟨px,0,none⟩),.int .i64 n.id,.int .i64 n.version,.slice none 0 0,.pointer (some ⟨sb,0,none⟩),.pointer (some ⟨lb,0,none⟩),.pointer (some ⟨pb,0,none⟩),av,.int .i64 (n.offered:Nat),.int .i64 (n.applied:Nat),.int .i64 n.wanted,.bool n.down] 98/\Blk w' w2.heap.size #[.int .u32 ep,.int .i64 ve,.int .i64 st] 197/\True) (by kernel_rfl) (by kernel_rfl) (by rw [← ac];exact⟨am,ah,trivial⟩) ?_;rw [← ac];clear ac
 refine Wb ?_
 refine zc rfl (λK hK=>?_);go_wp2_with fail
 refine(aw.out _).mono ?_;rintro e w4⟨rfl,ao⟩;have au:=am.call ao;have ap:=ah.call ao;have aj:=ze ak ao;go_wp2;refine hK.out _ _ (λ_=>⟨au,ap,trivial⟩) ?_;clear hK K
 refine Wb ?_
 refine zg ?_;have cE:=(ap).cell;go_wp2_with fail
 refine(al.out w4 aj).mono ?_;rintro e w7⟨rfl,az⟩;have an:=ze aj az;go_wp2;go_ret2
 exact⟨rfl,an⟩
theorem zbn(n:zq)(d:List UInt8):(zG n d).1.pax=n.pax:=by
 unfold zG
 split
 ·rfl
 split
 ·rfl
 split
 ·rfl
 exact(vL _ _).1.pax
theorem QH(p:xM)(i:Int)(b:Nat):(zA p i b).1.known=p.known:=by
 unfold zA
 split
 ·rfl
 split<;>rfl
theorem zes(p:xM)(i:Int)(b:Nat)(x:List UInt8):(vJ p i b x).1.known=p.known:=by
 unfold vJ
 split
 ·rfl
 split<;>rfl
theorem zbo(n:zq)(i:Int)(b:Nat):(zy n i b).1.pax.known=n.pax.known:=by
 unfold zy
 split
 ·rfl
 split
 ·rfl
 split<;>exact QH _ _ _
theorem zar(n:zq)(i:Int)(b:Nat)(x:List UInt8):(yH n i b x).1.pax.known=n.pax.known:=by
 unfold yH
 split
 ·rfl
 split
 ·rfl
 exact zes _ _ _ _
theorem Z7(n:zq)(i:Int)(x:List UInt8)(h:yq n.pax.known):yq (jd n i x).1.pax.known:=by
 have hk:=(JS (p:=n.pax) i x).2.1 h;unfold jd
 split
 ·exact h
 simp only
 split
 ·exact h
 split
 ·rw [(vM _ _).pax];exact hk
 split
 ·exact hk
 rw [(vM _ _).pax];exact hk
theorem QI(n:zq)(s:StD):yq (xS n s).pax.known:=by
 unfold xS;simp only
 show yq (jR _ _).pax.known
 rw [(vL _ _).1.pax,(vM _ _).pax];exact(zgP {n with store:=(yP n.store).1} s _).2.1
structure vm(v:Int)(n:zq):Prop where
 ok:XH (zt v) n
 known:yq n.pax.known
 ver:n.version=v
theorem vm.does {v:Int}{n:zq}(h:vm v n)(x:zl2)(hb:x.b<18446744073709551616):vm v (zd4 (zt v) n x):=by
 refine⟨zlw h.ok x hb,?_,?_⟩
 ·have hk:=h.known
  unfold zd4
  split
  ·rw [zbn];exact hk
  split
  ·rw [zbo];exact hk
  split
  ·rw [zar];exact hk
  split
  ·exact Z7 _ _ _ hk
  split
  ·unfold JR;split
   ·exact hk
   split<;>exact hk
  split
  ·unfold zk1;split<;>exact hk
  split
  ·unfold Xw;split<;>exact hk
  split
  ·exact QI _ _
  split
  ·exact Z7 _ _ _ hk
  exact hk
 obtain⟨⟨l,hi⟩, -⟩:=h.ok
 obtain⟨l',hs⟩:=zcz hi x hb;exact hs.same.2.1.trans h.ver
theorem vm.broadcast {v:Int}{n:zq}(h:vm v n)(d:List UInt8)(hd:d.length<=300):vm v (zG n d).1:=by
 have:=h.does ⟨0,0,0,d⟩ (by simp)
 rwa [show zd4 (zt v) n ⟨0,0,0,d⟩=(zG n (zcx ⟨0,0,0,d⟩)).1 from rfl,show zcx ⟨0,0,0,d⟩=d from List.take_of_length_le hd] at this
theorem vm.promise {v:Int}{n:zq}(h:vm v n)(i:Int)(b:Nat)(hb:b<18446744073709551616):vm v (zy n i b).1:=h.does ⟨1,i,b,[]⟩ hb
theorem vm.want {v:Int}{n:zq}(h:vm v n)(i:Int):vm v (JR n i).1:=h.does ⟨4,i,0,[]⟩ (by simp)
theorem vm.cut {v:Int}{n:zq}(h:vm v n)(i:Int):vm v (zk1 n i).1:=h.does ⟨5,i,0,[]⟩ (by simp)
theorem vm.new {v id cap:Int}(h1:64<=cap)(h2:cap<=1048576):vm v (zhq id v cap [] (zt v)):=
 ⟨⟨⟨[],zkc id v cap [] (zt v)⟩,zcA h1 h2⟩,λi x h=>by simp [zhq,qx,zH] at h,rfl⟩
def more(F:Nat->Prop)(W W':World):Nat->Prop:=λk=>F k∨(W.heap.size<=k/\k<W'.heap.size)
variable {w W W':World}{F:Nat->Prop}{B:Nat}{n:zq}{a:Addr}{v:Int}
end
section
open Go Go.RowKit
variable {P:Program}{ops:Array Oper}{Q:Exit->Act->World->Prop}
abbrev zcW:World->Prop:=λ_=>True
def VM(ops:Array Oper):Option Nat->List (Nat×Bool)->Array Bool->Bool
 |_,[],listed=>(Region.ready .any ops listed).isEmpty
 |brk,(i,true)::r,listed=>(match brk with|none=>true|some f=> !listed.getD f true &&(zl1 ops f).contains i && i !=f)&&(Region.ready .any ops listed).contains i && Region.free .any ops listed i && VM ops brk r (listed.setIfInBounds i true)
 |brk,(i,false)::r,listed=>decide (Region.ready .any ops listed=[i])&& VM ops (if brk=some i then none else brk) r (listed.setIfInBounds i true)
def vk(P:Program)(ops:Array Oper)(Q:Exit->Act->World->Prop):(World->Prop)->Option Nat->List (Nat×Bool)->Act->World->Prop
 |_,_,[],a,w=>Q .normal a w
 |S,brk,(i,true)::r,a,w=>∃o v,ops[i]?=some o/\YieldsIf P ops S o v a/\vk P ops Q S brk r (a.put o.dst v) w
 |S,brk,(i,false)::r,a,w=>wpOp P ops (λ_ _ _=>False) i (λa' w'=>(brk=some i->vk P ops Q zcW none r a' w')/\(brk≠some i->S w'/\vk P ops Q S brk r a' w')) a w
theorem J2 {S:World->Prop}{f:Nat} :∀(fuel:Nat)(listed:Array Bool)(a:Act)(w:World),listed.getD f true=true->yz P ops Q zcW none fuel listed a w->yz P ops Q S (some f) fuel listed a w
 |0,_,_,_,_,h=>h
 |fuel+1,listed,a,w,hf,h=>⟨h.1,λi hi=>wpOp_mono (λa' w' h'=>by
  have hf':(listed.setIfInBounds i true).getD f true=true:=by
   by_cases e:i=f
   ·subst e
    by_cases hb:i<listed.size
    ·simp [hb]
    simp
   rw [getD_set_ne true e];exact hf
  exact⟨λhas=>absurd (has f rfl) (by rw [hf'];simp),J2 fuel _ a' w' hf' h'.2⟩) (h.2 i hi)⟩
theorem qm(hsel:Region.noSelect ops=true):∀(l:List (Nat×Bool)) (S:World->Prop) (brk:Option Nat) (listed:Array Bool) (a:Act) (w:World),VM ops brk l listed=true->JE ops listed->(JL brk listed->S w)->
 vk P ops Q S brk l a w->yz P ops (jg Q) S brk l.length listed a w
 | [],S,brk,listed,a,w,hB,hc,hS,h=>⟨by simpa [VM] using hB,h⟩
 |(i,true)::l,S,brk,listed,a,w,hB,hc,hS,h=>by
  simp only [VM,Bool.and_eq_true] at hB;obtain⟨⟨⟨hk,hr⟩,hf⟩,hB⟩:=hB;have hr':i∈Region.ready .any ops listed:=by simpa using hr
  have aa:JL brk listed:=λf hf=>by subst hf;simp at hk;simpa using hk.1.1
  obtain⟨o,v,ho,hy,h⟩:=h
  exact ZQ ho (Region.noSelect_spec hsel) (λ_ _ _ h=>h) (λf hf=>(by subst hf;simp at hk;exact⟨hk.1.2,hk.2⟩)) _ listed a w hc aa (Region.free_spec ho hf) hr' hy (hS aa)
   (qm hsel l S brk _ _ w hB (hc.set hr') (λ_=>hS aa) h)
 |(i,false)::l,S,brk,listed,a,w,hB,hc,hS,h=>by
  simp only [VM,Bool.and_eq_true,decide_eq_true_eq] at hB;obtain⟨hr,hB⟩:=hB;refine⟨λh0=>(by rw [h0] at hr;cases hr),λj hj=>?_⟩;have ad:j=i:=by rw [hr] at hj;simpa using hj
  subst ad
  have ac:j<listed.size:=by
   rcases Nat.lt_or_ge j listed.size with h'|h'
   ·exact h'
   have:=(mem_ready.1 hj).1;simp [Array.getElem?_eq_none h'] at this
  refine wpOp_mono (λa' w' ⟨h1,h2⟩=>?_) (xl h)
  by_cases hb:brk=some j
  ·subst hb
   rw [if_pos rfl] at hB;exact⟨λaa=>absurd (aa j rfl) (by simp [ac]),J2 _ _ a' w' (by simp [ac]) (qm hsel l zcW none _ a' w' hB (hc.set hj) (λ_=>trivial) (h1 rfl))⟩
  rw [if_neg hb] at hB
  obtain⟨ab,h3⟩:=h2 hb;exact⟨λ_=>ab,qm hsel l S brk _ a' w' hB (hc.set hj) (λ_=>ab) h3⟩
theorem QJ {id:Nat}{a:Act}{w:World}{l:List Oper}(sch:List (Nat×Bool))(brk:Option Nat)(S:World->Prop)(hm:P.follows .mixedOrders=true)
 (hB:(Region.noSelect l.toArray && decide (sch.length=l.length)&& VM l.toArray brk sch (Array.replicate l.length false))=true) (hS:S w.drew)
 (h:vk P l.toArray Q S brk sch a w.drew):(Code.region id l.toArray true).wp P Q a w:=by
 simp only [Bool.and_eq_true,decide_eq_true_eq] at hB;obtain⟨⟨h1,h2⟩,h3⟩:=hB;have H:=qm h1 sch S brk _ a w.drew h3 (Zb l) (λ_=>hS) h;rw [h2] at H;exact wp_mono (wp_region_any (Q:=jg Q) hm (by simpa using qL _ _ _ _ H)) (λe a w h=>jg.imp e a w h)
variable {S:World->Prop}{brk:Option Nat}
theorem jS {a:Act}{w:World}(h:Q .normal a w):vk P ops Q S brk [] a w:=by unfold vk;exact h
theorem zP {i:Nat}{r:List (Nat×Bool)}{o:Oper}{a:Act}{w:World}{v:Value}(ho:ops[i]?=some o)(hg:Region.wanted o (yielded ops a.tmps)=true)
 (h1:∀w',S w'->(execOp a.eval o).run P w'=.ok (.value v) w') (h2:∀K:Act->Prop,(∀a',vk P ops Q S brk r a' w->K a')->K (a.put o.dst v)):vk P ops Q S brk ((i,true)::r) a w:=by
 unfold vk;exact⟨o,v,ho,.inl ⟨hg,h1⟩,h2 _ (λ_ h=>h)⟩
theorem Wj {R G:Prop} (k:R) (t:R->G:=by intro kk;(repeat (refine zP (v:=?_) rfl rfl (λw' h=>?_) (λK k=>?_);rotate_left;(focus (clear h;go_simp;(try with_reducible rfl)));(go_simp;refine k _ ?_;clear k K)));exact kk):G:=t k
theorem Wr {R G:Prop} (k:R) (t:R->G:=by intro kk;(repeat (refine zP (v:=?_) rfl rfl (λw' h=>?_) (λK k=>?_);rotate_left;obtain⟨f1,f2,f3,f4,f5,_⟩:=h;(try have e1:=f1.cell);(try have e2:=f2.cell);(try have e3:=f3.cell);(try have e4:=f4.cell);(try have e5:=f5.cell);go_simp;(try with_reducible rfl);go_simp;refine k _ ?_;clear k K));exact kk):G:=t k
theorem Ws {R G:Prop} (k:R) (t:R->G:=by intro kk;(repeat (refine zP (v:=?_) rfl rfl (λw' h=>?_) (λK k=>?_);rotate_left;obtain⟨f1,f2,_⟩:=h;have e1:=f1.cell;have e2:=f2.cell;go_simp;(try with_reducible rfl);go_simp;refine k _ ?_;clear k K));exact kk):G:=t k
theorem yJ {i:Nat}{o:Oper}{a:Act}{w:World}{R:Act->World->Prop}(ho:ops[i]?=some o)
 (h:∀K:Act->World->Prop,Shut (∀a' w',R a' w'->K a' w')->wpList P ops (Exit.then K (λ_ _ _=>False)) [o] a w):wpOp P ops (λ_ _ _=>False) i R a w:=by
 have H:=h R (λa' w' h1=>h1);unfold wpOp;rw [ho];unfold wpList at H;simp only
 split
 ·rename_i hw
  rw [if_pos hw] at H
  rcases H with H|⟨_,_,_,H⟩
  ·refine .inl ?_
   unfold Oper.wp at*
   generalize(execOp a.eval o).run P w=x at*
   cases x with
   |ok n w'=>
    cases n<;>simp only [Oper.upon] at H⊢<;>
     first
      |exact H
      |exact Calls.mono H (λe w'' he=>by cases e<;>first|exact he|exact he.elim|(obtain⟨_,_,h0⟩:=he;exact h0.elim))
      |exact Rows.mono H (λ_ _ he=>he)
   |halt x w'=>cases x<;>simp only [Oper.upon] at H⊢<;>first|exact H|exact H.elim
  exact H.elim
 rename_i hw
 rw [if_neg hw] at H;exact H
theorem jJ {i:Nat}{r:List (Nat×Bool)}{o:Oper}{a:Act}{w:World}(ho:ops[i]?=some o)(hb:brk≠some i)
 (h:∀K:Act->World->Prop,Shut (∀a' w',S w'->vk P ops Q S brk r a' w'->K a' w')->wpList P ops (Exit.then K (λ_ _ _=>False)) [o] a w):vk P ops Q S brk ((i,false)::r) a w:=by
 unfold vk;exact yJ ho (λK hK=>h K (λa' w' h1 h2=>hK.out a' w' ⟨λe=>absurd e hb,λ_=>⟨h1,h2⟩⟩))
theorem J3 {i:Nat}{r:List (Nat×Bool)}{o:Oper}{a:Act}{w:World}(ho:ops[i]?=some o)
 (h:∀K:Act->World->Prop,Shut (∀a' w',vk P ops Q zcW none r a' w'->K a' w')->wpList P ops (Exit.then K (λ_ _ _=>False)) [o] a w):vk P ops Q S (some i) ((i,false)::r) a w:=by
 unfold vk;exact yJ ho (λK hK=>h K (λa' w' h1=>hK.out a' w' ⟨λ_=>h1,λe=>absurd rfl e⟩))
end
section
open Go Go.RowKit
variable {P:Program}{ops:Array Oper}{Q:Exit->Act->World->Prop}{S:World->Prop}{brk:Option Nat}
def zet(ops:Array Oper)(listed:Array Bool):Bool:=
 (List.range ops.size).all λj=> !listed.getD j false||((ops[j]?.map λo=>o.after.toList.all λe=> !Region.binds .any e||listed.getD e.on false).getD true)
theorem zcX {listed:Array Bool}(h:zet ops listed=true):JE ops listed:=by
 intro j oj hj hl e he hb;unfold zet at h;rw [List.all_eq_true] at h;have h1:=h j (List.mem_range.2 (N5.1 hj).1);rw [hl,hj] at h1;simp only [Bool.not_true,Bool.false_or,Option.map_some,Option.getD_some,List.all_eq_true] at h1;have h2:=h1 e (by simpa using he);rw [hb] at h2
 simpa using h2
def okQ(ops:Array Oper)(brk:Option Nat)(listed:Array Bool)(i:Nat):Bool:=(match brk with|none=>true|some f=> !listed.getD f true &&(zl1 ops f).contains i && i !=f)&&(Region.ready .any ops listed).contains i && Region.free .any ops listed i
def X6(ops:Array Oper)(brk:Option Nat):List (Nat×Bool)->Array Bool->Option (Array Bool)
 | [],listed=>some listed
 |(i,true)::r,listed=>if okQ ops brk listed i=true then X6 ops brk r (listed.setIfInBounds i true)else none
 |(i,false)::r,listed=>if(decide (Region.ready .any ops listed=[i])&& brk !=some i)=true then X6 ops brk r (listed.setIfInBounds i true)else none
theorem J4(hsel:Region.noSelect ops=true){m:Nat}{last:Array Bool} :∀(l:List (Nat×Bool)) (listed:Array Bool) (a:Act) (w:World),X6 ops brk l listed=some last->JE ops listed->(JL brk listed->S w)->
 vk P ops (λ_ a w=>(JL brk last->S w)->yz P ops (jg Q) S brk m last a w) S brk l a w->yz P ops (jg Q) S brk (l.length+m) listed a w
 | [],listed,a,w,hB,hc,hS,h=>by
   simp only [X6,Option.some.injEq] at hB;subst hB;unfold vk at h;have h':=h hS
   rwa [show m=([]:List (Nat×Bool)).length+m by simp] at h'
 |(i,true)::l,listed,a,w,hB,hc,hS,h=>by
  simp only [X6] at hB
  by_cases hk:okQ ops brk listed i=true
  ·rw [if_pos hk] at hB
   unfold okQ at hk;simp only [Bool.and_eq_true] at hk;obtain⟨⟨hk,hr⟩,hf⟩:=hk;have hr':i∈Region.ready .any ops listed:=by simpa using hr
   have aa:JL brk listed:=λf hf=>by subst hf;simp at hk;simpa using hk.1.1
   unfold vk at h;obtain⟨o,v,ho,hy,h⟩:=h;rw [show((i,true)::l).length+m=(l.length+m)+1 by simp;omega]
   exact ZQ ho (Region.noSelect_spec hsel) (λ_ _ _ h=>h) (λf hf=>(by subst hf;simp at hk;exact⟨hk.1.2,hk.2⟩)) _ listed a w hc aa (Region.free_spec ho hf) hr' hy (hS aa)
    (J4 hsel l _ _ w hB (hc.set hr') (λ_=>hS aa) h)
  rw [if_neg hk] at hB;cases hB
 |(i,false)::l,listed,a,w,hB,hc,hS,h=>by
  simp only [X6] at hB
  by_cases hk:(decide (Region.ready .any ops listed=[i])&& brk !=some i)=true
  ·rw [if_pos hk] at hB
   simp only [Bool.and_eq_true,decide_eq_true_eq,bne_iff_ne,ne_eq] at hk;obtain⟨hr,hb⟩:=hk;unfold vk at h;rw [show((i,false)::l).length+m=(l.length+m)+1 by simp;omega];refine⟨λh0=>(by rw [h0] at hr;cases hr),λj hj=>?_⟩;have ac:j=i:=by rw [hr] at hj;simpa using hj
   subst ac;refine wpOp_mono (λa' w' ⟨_,h2⟩=>?_) (xl h);obtain⟨ab,h3⟩:=h2 hb;exact⟨λ_=>ab,J4 hsel l _ a' w' hB (hc.set hj) (λ_=>ab) h3⟩
  rw [if_neg hk] at hB;cases hB
theorem vB {id m:Nat}{a:Act}{w:World}{l:List Oper}(sch:List (Nat×Bool))(brk:Option Nat)(S:World->Prop)(last:Array Bool)(hm:P.follows .mixedOrders=true)
 (hB:(Region.noSelect l.toArray && decide (sch.length+m=l.length)&& decide (X6 l.toArray brk sch (Array.replicate l.length false)=some last))=true) (hS:S w.drew)
 (h:vk P l.toArray (λ_ a w=>(JL brk last->S w)->yz P l.toArray (jg Q) S brk m last a w) S brk sch a w.drew):(Code.region id l.toArray true).wp P Q a w:=by
 simp only [Bool.and_eq_true,decide_eq_true_eq] at hB;obtain⟨⟨h1,h2⟩,h3⟩:=hB;have H:=J4 (m:=m) h1 sch _ a w.drew h3 (Zb l) (λ_=>hS) h;rw [h2] at H;exact wp_mono (wp_region_any (Q:=jg Q) hm (by simpa using qL _ _ _ _ H)) (λe a w h=>jg.imp e a w h)
def VN(P:Program)(ops:Array Oper)(Q:Exit->Act->World->Prop)(S:World->Prop)(brk:Option Nat)(m:Nat)(listed:Array Bool)(a:Act)(w:World)(i:Nat):Prop:=
 wpOp P ops (λ_ _ _=>False) i (λa' w'=>(JL brk (listed.setIfInBounds i true)->S w')/\yz P ops (jg Q) S brk m (listed.setIfInBounds i true) a' w') a w
theorem X7 {m:Nat}{listed:Array Bool}{a:Act}{w:World}(i:Nat)(is:List Nat)(hk:Region.ready .any ops listed=i::is)(h:VN P ops Q S brk m listed a w i)(h2:∀j∈is,VN P ops Q S brk m listed a w j):yz P ops (jg Q) S brk (m+1) listed a w:=
 ⟨λh0=>absurd (hk.symm.trans h0) (by simp),λj hj=>by
  rw [hk] at hj
  rcases List.mem_cons.1 hj with e|e
  ·rw [e];exact xl h
  exact xl (h2 j e)⟩
theorem X8 {m:Nat}{listed:Array Bool}{a:Act}{w:World} :∀j∈([]:List Nat),VN P ops Q S brk m listed a w j:=λj hj=>by cases hj
theorem Vm {m:Nat}{listed:Array Bool}{a:Act}{w:World}{i:Nat}{is:List Nat}(h:VN P ops Q S brk m listed a w i)(h2:∀j∈is,VN P ops Q S brk m listed a w j):∀j∈i::is,VN P ops Q S brk m listed a w j:=λj hj=>by
 rcases List.mem_cons.1 hj with e|e
 ·rw [e];exact h
 exact h2 j e
theorem YN {m i:Nat}{o:Oper}{listed:Array Bool}{a:Act}{w:World}(ho:ops[i]?=some o)
 (h:∀K:Act->World->Prop,Shut (∀a' w',S w'->yz P ops (jg Q) S brk m (listed.setIfInBounds i true) a' w'->K a' w')->wpList P ops (Exit.then K (λ_ _ _=>False)) [o] a w):VN P ops Q S brk m listed a w i:=
 yJ ho (λK hK=>h K (λa' w' h1 h2=>hK.out a' w' ⟨λ_=>h1,h2⟩))
theorem zcY {m i:Nat}{o:Oper}{listed:Array Bool}{a:Act}{w:World}(ho:ops[i]?=some o)(hl:i<listed.size)
 (h:∀K:Act->World->Prop,Shut (∀a' w',yz P ops (jg Q) zcW none m (listed.setIfInBounds i true) a' w'->K a' w')->wpList P ops (Exit.then K (λ_ _ _=>False)) [o] a w):VN P ops Q S (some i) m listed a w i:=
 yJ ho (λK hK=>h K (λa' w' h1=>hK.out a' w' ⟨λhas=>absurd (has i rfl) (by simp [hl]),J2 _ _ _ _ (by simp [hl]) h1⟩))
theorem xC {m:Nat}{listed:Array Bool}{a:Act}{w:World}(sch:List (Nat×Bool))(hB:(Region.noSelect ops && decide (sch.length=m)&& zet ops listed && VM ops brk sch listed)=true)(hS:JL brk listed->S w)
 (h:vk P ops Q S brk sch a w):yz P ops (jg Q) S brk m listed a w:=by
 simp only [Bool.and_eq_true,decide_eq_true_eq] at hB;obtain⟨⟨⟨h1,h2⟩,h3⟩,h4⟩:=hB;subst h2;exact qm h1 sch S brk listed a w h4 (zcX h3) hS h
theorem Z8 {K V:Type} [DecidableEq K](i j:K)(x:V):∀l:List (K×V),zH i (put j x l)=if i=j then some x else zH i l
 | []=>by unfold put zH;rfl
 |(a,b)::l=>by
  have ih:=Z8 i j x l;unfold put
  by_cases h:j=a
  ·rw [if_pos h];subst h
   unfold zH
   by_cases hi:i=j<;>simp [hi]
  rw [if_neg h]
  unfold zH;rw [ih]
  by_cases hi:i=a
  ·subst hi;rw [if_pos rfl,if_pos rfl,if_neg (λe=>h e.symm)]
  rw [if_neg hi,if_neg hi]
def zbp:List Nat->List (List Nat)
 | []=>[[]]
 |i::r=>(zbp r).map (i::·)++zbp r
def zgQ(listed:Array Bool)(R rest:List Nat):Array Bool:=R.foldl (λL i=>if rest.contains i then L else L.setIfInBounds i true) listed
def zeu(ops:Array Oper)(listed:Array Bool)(R:List Nat):Bool:=
 (zbp R).all λrest=>rest.isEmpty||(decide (Region.ready .any ops (zgQ listed R rest)=rest)&& rest.all λi=>R.contains i && decide ((zgQ listed R rest).setIfInBounds i true=zgQ listed R (rest.filter (· !=i)))&&(zbp R).contains (rest.filter (· !=i))&& decide ((rest.filter (· !=i)).length+1=rest.length))
theorem zev {m mb:Nat}{listed:Array Bool}{a:Act}{K:Type} [DecidableEq K] {enc:K->Value}(R:List Nat)(tbl:Nat->K×Value)(W0:World)(hok:zeu ops listed R=true)(htb:∀i∈R,∀j∈R,(tbl i).1=(tbl j).1->i=j)(hmb:W0.heap.size<=mb)
 (hrun:∀i∈R,∀W l,zZ W mb enc l->wpOp P ops (λ_ _ _=>False) i (λa' w'=>a'=a/\(∃o,w'=W.putObj mb o)/\zZ w' mb enc (put (tbl i).1 (tbl i).2 l)) a W)
 (hend:∀W l,zZ W mb enc l->(∀i∈R,zH (tbl i).1 l=some (tbl i).2)->Below W0.heap.size W0 W->yz P ops (jg Q) zcW none m (zgQ listed R []) a W):
 ∀(n:Nat)(rest:List Nat)(W:World)(l:List (K×Value)),rest.length=n->rest∈zbp R->zZ W mb enc l->(∀i∈R,i∉rest->zH (tbl i).1 l=some (tbl i).2)->Below W0.heap.size W0 W->yz P ops (jg Q) zcW none (n+m) (zgQ listed R rest) a W:=by
 intro n
 induction n with
 |zero=>
  intro rest W l hl hs hM hR hb;obtain rfl:=N9 hl;rw [Nat.zero_add];exact hend W l hM (λi hi=>hR i hi (by simp)) hb
 |succ n ih=>
  intro rest W l hl hs hM hR hb;have h1:=hok;unfold zeu at h1;rw [List.all_eq_true] at h1;have h2:=h1 rest hs;rw [Bool.or_eq_true] at h2
  rcases h2 with h2|h2
  ·have:rest=[]:=by simpa using h2
   subst this;simp at hl
  simp only [Bool.and_eq_true,decide_eq_true_eq,List.all_eq_true] at h2
  obtain⟨h3,h4⟩:=h2;rw [show n+1+m=(n+m)+1 by omega];refine⟨λh0=>(by rw [h3] at h0;subst h0;simp at hl),λi hi=>?_⟩;rw [h3] at hi;obtain⟨⟨⟨h5,h6⟩,h7⟩,h8⟩:=h4 i hi;have aa:i∈R:=by simpa using h5
  refine xl (wpOp_mono (λa' w' h=>?_) (hrun i aa W l hM));obtain⟨rfl,⟨o,rfl⟩,ac⟩:=h;refine⟨λ_=>trivial,?_⟩;rw [h6];refine ih _ _ _ (by omega) (by simpa using h7) ac (λj hj hjn=>?_) (zS hb hmb o);have ab:zH (tbl j).1 (put (tbl i).1 (tbl i).2 l)=if(tbl j).1=(tbl i).1 then some (tbl i).2 else zH (tbl j).1 l:=Z8 _ _ _ l
  rw [ab]
  by_cases hji:j=i
  ·subst hji;rw [if_pos rfl]
  rw [if_neg (λe=>hji (htb j hj i aa e))]
  exact hR j hj (λh=>hjn (by simp [h,hji]))
theorem zlH {m mb:Nat}{listed:Array Bool}{a:Act}{w:World}{K:Type} [DecidableEq K] {enc:K->Value}(R:List Nat)(tbl:Nat->K×Value)(hok:(zeu ops listed R && decide (R∈zbp R)&& decide (zgQ listed R R=listed))=true)(htb:∀i∈R,∀j∈R,(tbl i).1=(tbl j).1->i=j)(W0:World)(hmb:W0.heap.size<=mb)(hb0:Below W0.heap.size W0 w)
 (hM:zZ w mb enc []) (hrun:∀i∈R,∀W l,zZ W mb enc l->wpOp P ops (λ_ _ _=>False) i (λa' w'=>a'=a/\(∃o,w'=W.putObj mb o)/\zZ w' mb enc (put (tbl i).1 (tbl i).2 l)) a W)
 (hend:∀W l,zZ W mb enc l->(∀i∈R,zH (tbl i).1 l=some (tbl i).2)->Below W0.heap.size W0 W->yz P ops (jg Q) zcW none m (zgQ listed R []) a W):yz P ops (jg Q) zcW none (R.length+m) listed a w:=by
 simp only [Bool.and_eq_true,decide_eq_true_eq] at hok;obtain⟨⟨h1,h2⟩,h3⟩:=hok;have:=zev R tbl W0 h1 htb hmb hrun hend R.length R w [] rfl h2 hM (λi hi hn=>absurd hi hn) hb0
 rwa [h3] at this
end
section
open Go
theorem vm.castX {v:Int}{n:zq}(h:vm v n)(i:Int)(b:Nat)(x:List UInt8)(hb:b<18446744073709551616):vm v (yH n i b x).1:=by
 obtain⟨⟨⟨l,hi⟩,hc⟩,hk,hv⟩:=h;obtain⟨l',hs⟩:=zcu hi i b x hb;exact⟨⟨⟨l',hs.inv⟩,zfa hc _ _ _⟩,by rw [zar];exact hk,hs.same.2.1.trans hv⟩
theorem vm.learnX {v:Int}{n:zq}(h:vm v n)(i:Int)(x:List UInt8):vm v (jd n i x).1:=by
 obtain⟨⟨⟨l,hi⟩,hc⟩,hk,hv⟩:=h;obtain⟨l',hs⟩:=Ve hi i x;exact⟨⟨⟨l',hs.inv⟩,XI hc _ _⟩,Z7 _ _ _ hk,hs.same.2.1.trans hv⟩
def qD(n:Nat)(dst:Int)(s:List UInt8):Prop:=∃(kind src:Nat)(data:List UInt8),kind<=7/\src<n/\data.length<=4096/\s=(qU (qW kind src dst data)).1
structure zmq(n:Nat)(hurt:List (Nat×Unit))(x:zgg):Prop where
 dst:0<=x.2.1/\x.2.1<n
 form:ZH x.2.2=none/\x.2.2.length<=5000∨qD n x.2.1 x.2.2
 sum:zH x.1 hurt=none->qD n x.2.1 x.2.2
structure zcZ(l:ye):Prop where
 inst:0<=l.inst/\l.inst<=30000
 ballot:l.ballot<18446744073709551616
 value:l.value.length<=5000
 pn:l.promised.length=16
 vn:l.voted.length=16
 pc:l.promises.length=l.promised.count true
 vc:l.votes=l.voted.count true
 ps:∀v∈l.promises,v.2.2.length<=5000
structure zr(v:Int)(k L:Nat)(S:zf):Prop where
 n0:1<=S.nodes.length/\S.nodes.length<=16
 nodes:∀(i:Nat) m,S.nodes[i]?=some m->vm v m
 seatsN:S.seats.length=S.nodes.length
 seats:∀(i:Nat) s,S.seats[i]?=some s->s.greatest<=1152921504606847008/\s.accepted<=116508/\s.delivered<=640000
 leadsN:(S.leads.map (·.1)).Nodup
 leads:∀(i:Nat) l,zH (i:Int) S.leads=some l->zcZ l
 notesN:S.notes.length<=1000
 notes:∀x∈S.notes,zmq S.nodes.length S.hurt x
 ids:(S.notes.map (·.1)).Nodup
 least:∀x∈S.notes,x.1<=S.last
 last:S.last<=L
 trace:S.trace.length<=k+(S.seats.map λs=>s.accepted+s.delivered).sum
variable {v:Int}{k L:Nat}{S:zf}
theorem VO(l:List Bool)(i:Nat)(h:l[i]?.getD false=false)(hi:i<l.length):(l.set i true).count true=l.count true+1:=by
 induction l generalizing i with
 |nil=>simp at hi
 |cons b l ih=>
  cases i with
  |zero=>
   simp at h
   simp [h]
  |succ i=>
   have:=ih i (by simpa using h) (by simpa using hi);simp only [List.set_cons_succ,List.count_cons,this];omega
theorem zr.node(h:zr v k L S){i:Nat}(hi:i<S.nodes.length):S.nodes[i]?=some (zn S i)/\vm v (zn S i):=by
 have h1:S.nodes[i]?=some (zn S i):=by
  unfold zn;rw [N3 hi];rfl
 exact⟨h1,h.nodes i _ h1⟩
theorem zr.seat(h:zr v k L S){i:Nat}(hi:i<S.nodes.length):S.seats[i]?=some (jj S i):=by
 unfold jj;rw [N3 (by rw [h.seatsN];exact hi)];rfl
theorem zr.mono(h:zr v k L S){k' L':Nat}(hk:k<=k')(hL:L<=L'):zr v k' L' S:=
 ⟨h.n0,h.nodes,h.seatsN,h.seats,h.leadsN,h.leads,h.notesN,h.notes,h.ids,h.least,Nat.le_trans h.last hL,Nat.le_trans h.trace (by omega)⟩
theorem zr.setNode(h:zr v k L S)(i:Nat){m:zq}(hm:vm v m):zr v k L (setNode S i m):=by
 have hl:(Go.Proofs.YtofppfoioodblaaGreatDoor.setNode S i m).nodes.length=S.nodes.length:=by simp [Go.Proofs.YtofppfoioodblaaGreatDoor.setNode]
 refine⟨by rw [hl];exact h.n0,λj m' hj=>?_,by rw [hl];exact h.seatsN,h.seats,h.leadsN,h.leads,h.notesN,by rw [hl];exact h.notes,h.ids,h.least,h.last,h.trace⟩;have aa:(S.nodes.set i m)[j]?=some m':=hj
 by_cases hij:i=j
 ·subst hij
  have ab:=(N6.1 aa).1;rw [List.length_set] at ab;rw [List.getElem?_set_self ab] at aa
  cases aa;exact hm
 rw [List.getElem?_set_ne hij] at aa
 exact h.nodes j m' aa
theorem ziO {l:List jV}{i:Nat}{s s':jV}(f:jV->Nat)(h:l[i]?=some s):((l.set i s').map f).sum+f s=(l.map f).sum+f s':=by
 induction l generalizing i with
 |nil=>simp at h
 |cons a l ih=>
  cases i with
  |zero=>simp at h;subst h;simp;omega
  |succ i=>
   have:=ih (i:=i) (by simpa using h);simp only [List.set_cons_succ,List.map_cons,List.sum_cons];omega
theorem zr.setSeat(h:zr v k L S){i:Nat}(hi:i<S.nodes.length)(s':jV)(h1:s'.greatest<=1152921504606847008/\s'.accepted=(jj S i).accepted/\s'.delivered=(jj S i).delivered):zr v k L (setSeat S i s'):=by
 have hs:=h.seat hi;have hb:=h.seats i _ hs;have ab:=ziO (s':=s') (λs=>s.accepted+s.delivered) hs;refine⟨h.n0,h.nodes,by simpa [Go.Proofs.YtofppfoioodblaaGreatDoor.setSeat] using h.seatsN,λj s hj=>?_,h.leadsN,h.leads,h.notesN,h.notes,h.ids,h.least,h.last,?_⟩
 ·have aa:(S.seats.set i s')[j]?=some s:=hj
  by_cases hij:i=j
  ·subst hij
   rw [List.getElem?_set_self (by rw [h.seatsN];exact hi)] at aa
   cases aa
   rw [h1.2.1,h1.2.2];exact⟨h1.1,hb.2⟩
  rw [List.getElem?_set_ne hij] at aa;exact h.seats j s aa
 have ht:=h.trace
 show S.trace.length<=k+((S.seats.set i s').map λs=>s.accepted+s.delivered).sum
 rw [h1.2.1,h1.2.2] at ab;omega
theorem zr.stale(h:zr v k L S){i:Nat}(hi:i<S.nodes.length):zr v k L (qk S i):=h.setSeat hi _ ⟨(h.seats i _ (h.seat hi)).1,rfl,rfl⟩
theorem ziP {K V:Type} [DecidableEq K] {i:K}{x:V}{q:K×V} :∀ {l:List (K×V)},q∈put i x l->q=(i,x)∨q∈l
 | [],h=>by unfold put at h;simpa using h
 |(a,b)::l,h=>by
  unfold put at h
  split at h
  ·rcases List.mem_cons.1 h with h|h
   ·exact .inl h
   exact .inr (U7 _ h)
  rcases List.mem_cons.1 h with h|h
  ·exact .inr (by rw [h];exact List.mem_cons_self ..)
  rcases ziP h with h|h
  ·exact .inl h
  exact .inr (U7 _ h)
theorem X9 {K V:Type} [DecidableEq K](i:K)(x:V):∀ {l:List (K×V)},(l.map (·.1)).Nodup->((put i x l).map (·.1)).Nodup
 | [],_=>by simp [put]
 |(a,b)::l,h=>by
  simp only [List.map_cons,List.nodup_cons] at h;unfold put
  split
  ·rename_i e;subst e;simpa using h
  rename_i e
  simp only [List.map_cons,List.nodup_cons];refine⟨λhm=>?_,X9 i x h.2⟩;obtain⟨q,hq,he⟩:=List.mem_map.1 hm
  rcases ziP hq with h1|h1
  ·subst h1;exact e he
  exact h.1 (List.mem_map.2 ⟨q,h1,he⟩)
theorem zr.setLeads(h:zr v k L S){ld:List (Int×ye)}(hn:(ld.map (·.1)).Nodup)(hl:∀(i:Nat) l,zH (i:Int) ld=some l->zcZ l):zr v k L {S with leads:=ld} :=
 ⟨h.n0,h.nodes,h.seatsN,h.seats,hn,hl,h.notesN,h.notes,h.ids,h.least,h.last,h.trace⟩
theorem zr.putLead(h:zr v k L S)(i:Nat){l:ye}(hl:zcZ l):zr v k L {S with leads:=put (i:Int) l S.leads} :=
 h.setLeads (X9 _ _ h.leadsN) λj l' hj=>by
  rw [Z8] at hj
  split at hj
  ·cases hj;exact hl
  exact h.leads j l' hj
end
open Go Go.RowKit Go.Shelf Go.Extern.Stop Go.Stop Go.Extern
attribute [local go_sem] Oper.semAt_some zB zo
theorem Qa(e:jz):(ZZ e).1.length<=4000:=by
 unfold ZZ ju;simp only
 repeat' split
 all_goals (simp at*;try omega)
theorem VP(era:ZJ):∀(l p:List zx)(r:List UInt8×Bool),r.1.length<=4000->(yn era p l r).1.length<=4000
 | [],p,r,h=>by unfold yn;exact h
 |m::l,p,r,h=>by
  unfold yn
  split
  ·exact VP era l _ _ (Qa _)
  exact h
