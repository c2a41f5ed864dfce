/- PARTS OF THE PROOF. -/
import Derived.Test.YtofppfoioodblaaGreatDoorTT25
set_option maxRecDepth 8000
set_option maxHeartbeats 4000000
open Go.Proofs.Tryz
namespace Go.Proofs.YtofppfoioodblaaGreatDoor
open Go Go.RowKit Go.Shelf Go.Extern.Stop Go.Stop Go.Extern
attribute [local go_sem] Oper.semAt_some zv zm
theorem V9(B:Nat)(i:Int)(w:World):Calls prog 143 #[.pointer (some ⟨B,0,none⟩),.int .i64 i] w λe w'=>
 e=.returned (.func (.func 188) #[] #[.pointer (some ⟨w.heap.size+1,0,none⟩),.pointer (some ⟨w.heap.size,0,none⟩)])/\w'=(w.alloc (.cells #[.pointer (some ⟨B,0,none⟩)] 300)).alloc (.cells #[.int .i64 i] 3):=by
 go_enter func143,ntmps143
 go_wp2;go_ret
 exact⟨rfl,rfl⟩
theorem YT(ib qb B:Nat)(p:xn)(t:List Nat)(i0:Nat)(hi:i0<=10001)(hk:yp p.known):
 XG Fence.wide 2 prog 188 #[.pointer (some ⟨ib,0,none⟩),.pointer (some ⟨qb,0,none⟩)] (λx:List UInt8=> #[.string (bs x)])
  (λ(k:Nat) x=>zD (k:Int) p.known=some x) (λk _=>k+1) (λk=>zD (k:Int) p.known=none)
  (λ_ W=>Blk W ib #[.int .i64 (i0:Nat)] 3/\Blk W qb #[.pointer (some ⟨B,0,none⟩)] 300/\∃px ow,W.cell? ⟨B,0,none⟩=some (.pointer (some ⟨px,0,none⟩))/\j4 px p t ow W) i0:=by
 intro lp J Jx W hJ hJx hRd hY h0;have e0:=(hRd _ _ _ h0).1.cell;have hF:Fence.wide.fn 188:=trivial;have hro:Fence.wide.round=none:=rfl;refine callsIn_of_wp func188 rfl hF ?_ hro;simp only [ntmps188,R8,Nat.reduceAdd,Nat.reduceSub]
 gi_wp2
 gi_loopw [4] (λp4 wr=>∃(k:Nat)(X:Nat->Prop),p4=.int .i64 (k:Nat)/\k<=10001/\J k X wr) (λp4 _=>10001 - (intOf p4).toNat)
 case atStart=>exact⟨i0,_,rfl,hi,h0⟩
 case round=>
  obtain⟨k,X,rfl,hk1,hJs⟩:=hrel;clear e0;obtain⟨-,kq,px,ow,cB,hP⟩:=hRd _ _ _ hJs;have eq:=kq.cell;have hdec:=λW hW=>JE px p t ow (k:Int) W hW
  cases hl:zD (k:Int) p.known with
  |none=>
   rw [hl] at hdec;simp only [Option.getD_none,Option.isSome_none] at hdec;replace hdec:=hid hdec;replace hl:=hid hl
   gi_wp2_with fail
   refine(callsIn_wide.2 (hdec.out _ hP)).mono ?_;rintro e w1⟨rfl,hb1⟩;have hJ1:J k X w1:=hJ _ _ _ _ _ hJs (Mod.of_below X hb1) (λk h=>.inl h)
   gi_wp2
   refine bodyPost_ret (results_none rfl _ _ _) rfl ?_;exact⟨⟨_,rfl⟩,.inl ⟨k,X,hl.out,hJ1⟩⟩
  |some x=>
   rw [hl] at hdec;simp only [Option.getD_some,Option.isSome_some] at hdec;have hk4:=hk _ _ hl;have hwk:IntKind.i64.wrap ((k:Int)+1)=(k:Int)+1:=by rw [N8];omega
   replace hdec:=hid hdec
   gi_wp2_with fail
   refine(callsIn_wide.2 (hdec.out _ hP)).mono ?_;rintro e w1⟨rfl,hb1⟩;have hJ1:J k X w1:=hJ _ _ _ _ _ hJs (Mod.of_below X hb1) (λk h=>.inl h);obtain⟨fn,tmps,assign,body,hy,hR⟩:=hY k x X w1 hJ1 hl;replace hl:=hid hl
   gi_wp2
   refine hR.mono ?_;rintro e W'(⟨rfl,hJ', -⟩|⟨rfl,hx'⟩)
   ·clear hR hy
    gi_wp2
    go_roundw
    case rel=>exact⟨k+1,_,by simp,by omega,hJ'⟩
    case measure=>simp [intOf];omega
   ·gi_wp2
    refine bodyPost_ret (results_none rfl _ _ _) rfl ?_;exact⟨⟨_,rfl⟩,.inr ⟨_,hx'⟩⟩
theorem zhg(B:Nat)(L:zR)(t:List Nat)(ow:Own)(w:World)(h:zI B L t ow w)(hl:L.fold.eras.length<=536870912):Calls prog 128 #[.pointer (some ⟨B,0,none⟩)] w λe w'=>
 ∃v',e=.returned v'/\Row w' 197 3 v' L.fold.eras.length (L.fold.eras.flatMap jd)/\Below w.heap.size w w'/\(∀g,v'.ownBlock=some g->w.heap.size<=g):=by
 have hn:=Zt B L t ow w h;obtain⟨hk,fb,hv,lv,hB,hF, -⟩:=h;have he:=zdJ fb L.fold (t++ [0]) ow w hF hl;have e0:=hB.cell;unfold jS at e0;replace hn:=hid hn;replace he:=hid he;replace hF:=hid hF;clear hB hk
 go_enter func128,ntmps128
 go_wp2_with fail
 refine hn.out.mono ?_;rintro e w1⟨rfl,hw1⟩;obtain rfl:=hw1.symm;go_wp2_with fail
 refine he.out.mono ?_;rintro e w2⟨v',rfl,h1,h2,h3⟩;replace h3:=hid h3;go_wp2;go_ret
 exact⟨_,rfl,h1,h2,h3.out⟩
theorem zkd {W:World}{l:List qZ}{b off cap:Nat}(h:Src W (.slice (some ⟨b,off,none⟩) l.length cap) 3 l.length (l.flatMap jd)){k:Nat}{x:qZ}(hx:l[k]?=some x):
 W.cell? ⟨b,off+k*3,none⟩=some (.int .u32 x.1)/\W.cell? ⟨b,off+k*3+1,none⟩=some (.int .i64 x.2.1)/\W.cell? ⟨b,off+k*3+2,none⟩=some (.int .i64 x.2.2):=by
 rcases h.2 with⟨h, -⟩|⟨b',off',cap',h, -,hr⟩
 ·cases h
 ·cases h
  have hcell:∀j u,(jd x)[j]?=some u->j<3->W.cell? ⟨b,off+(k*3+j),none⟩=some u:=λj u hu hj=>hr _ u ((Zs l k x hx j hj).trans hu)
  exact⟨hcell 0 _ rfl (by omega),hcell 1 _ rfl (by omega),hcell 2 _ rfl (by omega)⟩
theorem zhh {px sb lb pb:Nat}{av:Value}(B:Nat)(n:zp)(t:List Nat)(ow:Own)(e:jy)(mv:Value)(w:World)(h:zx B px sb lb pb av n t ow w)(hl:n.loc.fold.eras.length<=536870912):
 Calls prog 216 #[.pointer (some ⟨B,0,none⟩),qV e mv] w λr w'=>r=.returned (.int .i64 (xP n e))/\Below w.heap.size w w':=by
 have hB:=h.blk;have her:=λW hW=>zhg lb n.loc (t++ [2]) ow W hW hl
 have hlo:=h.lo;unfold zz at hB;have e0:=hB.cell;have l0:=hB.lt;unfold qV xP;clear h hB;replace hlo:=hid hlo;replace her:=hid her
 by_cases h2:e.kind=2
 ·have t1:(e.kind==2)=true:=by simp [h2]
  rw [if_pos h2];replace h2:=hid h2
  go_enter func216,ntmps216
  go_wp2;go_ret
  exact⟨rfl,pbx⟩
 ·have t1:(e.kind==2)=false:=by simp [h2]
  rw [if_neg h2];replace h2:=hid h2
  by_cases h3:e.kind=3
  ·have t2:(e.kind==3)=true:=by simp [h3]
   rw [if_pos h3];replace h3:=hid h3
   generalize n.loc.fold.eras=l at*
   by_cases h4:1<l.length
   ·have t3:decide ((1:Int)<(l.length:Int))=true:=by simp;omega
    rw [if_pos h4];obtain⟨x,hx⟩:∃x,l[l.length - 2]?=some x:=⟨_,N3 (by omega)⟩;rw [hx,Option.getD_some];have y0:(0:Int)<=(l.length:Int) - 2:=by omega
    have y1:(l.length:Int) - 2<(l.length:Int):=by omega
    have hw2:IntKind.i64.wrap ((l.length:Int) - 2)=(l.length:Int) - 2:=by rw [N8];omega
    have hwn:((l.length:Int) - 2).toNat=l.length - 2:=by omega
    replace hx:=hid hx
    go_enter func216,ntmps216
    go_wp2_with fail
    refine(her.out _ ((zI.loc lb n.loc _).below hlo.out (pbx))).mono ?_;rintro r w1⟨v',rfl,hrow,hb1, -⟩;have hbw:Below w.heap.size w w1:=pbx
    obtain⟨g,cap,rfl⟩:∃g cap,v'=.slice (some ⟨g,0,none⟩) l.length cap:=by
     rcases hrow.form with⟨-,h0, -⟩|⟨g,cap,h, -⟩
     ·omega
     ·exact⟨g,cap,h⟩
    obtain⟨c0,c1,c2⟩:=zkd hrow.src hx.out;simp only [Nat.zero_add] at c0 c1 c2;replace hrow:=hid hrow;go_wp2;go_ret
    exact⟨rfl,hbw⟩
   ·have t3:decide ((1:Int)<(l.length:Int))=false:=by simp;omega
    rw [if_neg h4]
    go_enter func216,ntmps216
    go_wp2_with fail
    refine(her.out _ ((zI.loc lb n.loc _).below hlo.out (pbx))).mono ?_;rintro r w1⟨v',rfl,hrow,hb1, -⟩;have hbw:Below w.heap.size w w1:=pbx;obtain⟨va,vc,rfl⟩:=hrow.src.shape;replace hrow:=hid hrow;go_wp2;go_ret
    exact⟨rfl,hbw⟩
  ·have t2:(e.kind==3)=false:=by simp [h3]
   rw [if_neg h3];replace h3:=hid h3
   go_enter func216,ntmps216
   go_wp2;go_ret
   exact⟨rfl,pbx⟩
theorem yK.node {t:List Nat}{i B:Nat}{A:Own->World->Prop}(hA:yK (t++ [i]) A){ow ow':Own}{W W':World}(h:A ow W)(ho:ow B=t)(hM:Mod (λk=>k=B) W W')(hag:∀k,k<W.heap.size->ow' k=ow k):A ow' W':=
 hA _ _ _ _ h hM.size (λk hk hs=>⟨hag k hk,hM.block k hk (λe=>by subst e;rw [ho] at hs;exact zQ t i hs)⟩)
def zhi(B:Nat)(id v:Int)(sv:Value)(down:Bool)(t:List Nat)(ow:Own)(w:World)(e:Ending)(w':World):Prop:=
 e=.returned (.int .i64 0)/\∃ow' px lb pb,(∀k,k<w.heap.size->ow' k=ow k)/\Mod (λk=>k=B) w w'/\
  Blk w' B #[.pointer (some ⟨px,0,none⟩),.int .i64 id,.int .i64 v,.slice none 0 0,sv,.pointer (some ⟨lb,0,none⟩),.pointer (some ⟨pb,0,none⟩),.slice none 0 0,.int .i64 0,.int .i64 0,.int .i64 0,.bool down] 98/\
  j4 px x9 (t++ [0]) ow' w'/\zI lb (zh9 v (zt v)) (t++ [2]) ow' w'/\jU pb qD (t++ [3]) ow' w'
theorem Qn(a:Addr)(B:Nat)(c0 c5 c6 c7 c8 c9 c10:Value)(id v:Int)(sv:Value)(down:Bool)(t:List Nat)(ow:Own)(w:World)(hv:known v=true)(he:jE w a)(ho:ow B=t)
 (hB:Blk w B #[c0,.int .i64 id,.int .i64 v,.slice none 0 0,sv,c5,c6,c7,c8,c9,c10,.bool down] 98):
 Calls prog 44 #[.pointer (some ⟨B,0,none⟩)] w (zhi B id v sv down t ow w):=by
 have hln:=zi3 a v hv (t++ [2]) ow w he;have hpn:=λow1 W=>zhb (t++ [0]) ow1 W
 have hbn:=λow1 W=>zgK (t++ [3]) ow1 W
 have hBl:=hB.lt;have e0:=hB.cell;replace hln:=hid hln;replace hpn:=hid hpn;replace hbn:=hid hbn;replace he:=hid he
 go_enter func44,ntmps44
 go_wp2_with fail
 refine hln.out.mono ?_;rintro e w1⟨lb,ow1,rfl,hs1,hb1,hL⟩;have kB1:=hB.call hb1;have ho1:ow1 B=t:=(hs1.agree B hBl).trans ho;go_wp2_with fail
 refine(hpn.out ow1 _).mono ?_;rintro e w2⟨px,ow2,rfl,hs2,hb2,hP,hpx⟩;have kB2:=kB1.call hb2;have ho2:ow2 B=t:=(hs2.agree B kB1.lt).trans ho1;have hL2:zI lb (zh9 v (zt v)) (t++ [2]) ow2 w2:=zI.loc _ _ _ _ _ _ _ hL hb2.size (λk hk _=>⟨hs2.agree k hk,hb2.block k hk⟩);have hb12:=zg hb1 hb2;have fB2:=kB2.frozen;have lB2:=kB2.lt;have cB2:=kB2.cell;clear e0;go_wp2_with fail
 obtain⟨W3,hW3⟩:∃W3,W3=(w2.setCell ⟨B,0,none⟩ (.pointer (some ⟨px,0,none⟩))).setCell ⟨B,5,none⟩ (.pointer (some ⟨lb,0,none⟩)):=⟨_,rfl⟩;have kB3:=(kB2.set (o:=0) (.pointer (some ⟨px,0,none⟩))).set (o:=5) (.pointer (some ⟨lb,0,none⟩));rw [← hW3] at kB3;have hm3:Mod (λk=>k=B) w2 W3:=by rw [hW3];exact((Mod.refl (λk=>k=B) w2).thenSet (p:=⟨B,0,none⟩) rfl _).thenSet (p:=⟨B,5,none⟩) rfl _
 rw [← hW3];clear hW3 fB2 cB2;refine(hbn.out ow2 _).mono ?_;rintro e w4⟨pb,ow4,rfl,hs4,hb4,hQ,hpb⟩;have kB4:=kB3.call hb4;have hP4:j4 px x9 (t++ [0]) ow4 w4:=yK.node (j4.loc px x9 (t++ [0])) hP ho2 (hm3.thenCall hb4) (λk hk=>hs4.agree k (by have:=hm3.size;omega));have hL4:zI lb (zh9 v (zt v)) (t++ [2]) ow4 w4:=yK.node (zI.loc lb _ (t++ [2])) hL2 ho2 (hm3.thenCall hb4) (λk hk=>hs4.agree k (by have:=hm3.size;omega));have ho4:ow4 B=t:=(hs4.agree B kB3.lt).trans ho2;have fB4:=kB4.frozen;have cB4:=kB4.cell;have lB4:=kB4.lt;go_wp2;go_ret
 have hm5:Mod (λk=>k=B) w4 (((((w4.setCell ⟨B,6,none⟩ (.pointer (some ⟨pb,0,none⟩))).setCell ⟨B,7,none⟩ (.slice none 0 0)).setCell ⟨B,8,none⟩ (.int .i64 0)).setCell ⟨B,9,none⟩ (.int .i64 0)).setCell ⟨B,10,none⟩ (.int .i64 0)):=
  (((((Mod.refl (λk=>k=B) w4).thenSet (p:=⟨B,6,none⟩) rfl _).thenSet (p:=⟨B,7,none⟩) rfl _).thenSet (p:=⟨B,8,none⟩) rfl _).thenSet (p:=⟨B,9,none⟩) rfl _).thenSet (p:=⟨B,10,none⟩) rfl _
 have k5:=((((kB4.set (o:=6) (.pointer (some ⟨pb,0,none⟩))).set (o:=7) (.slice none 0 0)).set (o:=8) (.int .i64 0)).set (o:=9) (.int .i64 0)).set (o:=10) (.int .i64 0)
 have hmAll:Mod (λk=>k=B) w (((((w4.setCell ⟨B,6,none⟩ (.pointer (some ⟨pb,0,none⟩))).setCell ⟨B,7,none⟩ (.slice none 0 0)).setCell ⟨B,8,none⟩ (.int .i64 0)).setCell ⟨B,9,none⟩ (.int .i64 0)).setCell ⟨B,10,none⟩ (.int .i64 0)):=
  ((Mod.of_below (λk=>k=B) hb12).trans (hm3.thenCall hb4) (λ_ _ e=>e) (λ_ _ e=>e)).trans hm5 (λ_ _ e=>e) (λ_ _ e=>e)
 have hz1:=hb1.size;have hz2:=hb2.size;have hz3:=hm3.size;refine⟨rfl,ow4,px,lb,pb,λk hk=>?_,hmAll,k5,yK.node (j4.loc px x9 (t++ [0])) hP4 ho4 hm5 (λ_ _=>rfl),yK.node (zI.loc lb _ (t++ [2])) hL4 ho4 hm5 (λ_ _=>rfl),yK.node (jU.loc pb qD (t++ [3])) hQ ho4 hm5 (λ_ _=>rfl)⟩;rw [hs4.agree k (by omega),hs2.agree k (by omega),hs1.agree k hk]
def zc5(id v cap:Int)(t:List Nat)(ow:Own)(w:World)(e:Ending)(w':World):Prop:=
 ∃B ow',e=.returned (.tuple #[.pointer (some ⟨B,0,none⟩),.int .i64 0])/\zq t ow w ow' w'/\Below w.heap.size w w'/\jC B (zgd id v cap [] (zt v)) t ow' w'/\w.heap.size<=B
theorem zi5(a:Addr)(id v cap:Int)(hi:0<=id)(hi2:id<16)(hv:known v=true)(h1:64<=cap)(h2:cap<=1048576)(t:List Nat)(ow:Own)(w:World)(he:jE w a):
 Calls prog 24 #[.int .i64 id,.int .i64 v,.int .i64 cap,.slice none 0 0] w (zc5 id v cap t ow w):=by
 have hst:=zgY cap h1 h2 (t++ [1]) ow w;have hcl:=λW=>Tryz.slices_Clone_int_nil 0 0 W
 have t1:decide (id<0)=false:=by simp;omega
 have t2:decide (16<=id)=false:=by simp;omega
 replace hst:=hid hst;replace hcl:=hid hcl
 go_enter func24,ntmps24
 go_wp2_with fail
 refine hst.out.mono ?_;rintro e w1⟨sb,ow1,rfl,hs1,hb1,hS,hsb⟩;go_wp2_with fail
 refine(hcl.out _).mono ?_;rintro e w2⟨rfl,hw2⟩;obtain rfl:=hw2.symm;have kB2:Blk (w1.alloc (.cells #[.pointer none,.int .i64 id,.int .i64 v,.slice none 0 0,.pointer (some ⟨sb,0,none⟩),.pointer none,.pointer none,.slice none 0 0,.int .i64 0,.int .i64 0,.int .i64 0,.bool false] 98)) w1.heap.size _ 98:=Blk.new rfl;have hb2:Below w.heap.size w (w1.alloc (.cells #[.pointer none,.int .i64 id,.int .i64 v,.slice none 0 0,.pointer (some ⟨sb,0,none⟩),.pointer none,.pointer none,.slice none 0 0,.int .i64 0,.int .i64 0,.int .i64 0,.bool false] 98)):=zi hb1 _;obtain⟨W2,hW2⟩:∃W2,W2=w1.alloc (.cells #[.pointer none,.int .i64 id,.int .i64 v,.slice none 0 0,.pointer (some ⟨sb,0,none⟩),.pointer none,.pointer none,.slice none 0 0,.int .i64 0,.int .i64 0,.int .i64 0,.bool false] 98):=⟨_,rfl⟩;have hS2:jp sb (qC cap) (t++ [1]) (ow1.ext w1.heap.size (λk=>k=w1.heap.size) t) W2:=jp.loc _ _ _ _ _ _ _ hS (by rw [hW2];simp) (λk hk _=>⟨Own.ext_old hk,by rw [hW2];exact U4 _ _ _ hk⟩);have hsz2:W2.heap.size=w1.heap.size+1:=by rw [hW2];simp
 rw [← hW2] at kB2 hb2;have hbeg:=Qn a w1.heap.size _ _ _ _ _ _ _ id v _ false t (ow1.ext w1.heap.size (λk=>k=w1.heap.size) t) W2 hv (he.below hb2 he.lt) (Own.ext_new (N0 _) rfl) kB2;replace hbeg:=hid hbeg;go_wp2_with fail
 rw [← hW2];clear hW2;refine hbeg.out.mono ?_;rintro e w3⟨rfl,ow3,px,lb,pb,hag,hM,k3,hP,hL,hQ⟩;have hz1:=hb1.size;go_wp2;go_ret2
 have hb3:Below w.heap.size w w3:=hb2.trans (hM.to_below (by omega) (λk _ e=>by omega));have hS3:jp sb (qC cap) (t++ [1]) ow3 w3:=yK.node (jp.loc sb _ (t++ [1])) hS2 (Own.ext_new (N0 _) rfl) hM hag;have hoB:ow3 w1.heap.size=t:=(hag _ (by omega)).trans (Own.ext_new (N0 _) rfl);refine⟨w1.heap.size,ow3,rfl,⟨Mod.of_below _ hb3,λk hk=>?_⟩,hb3,⟨px,sb,lb,pb,.slice none 0 0,k3,hP,hS3,hL,hQ,z7 _ _ _,hoB,by simp [Value.ownBlock],rfl⟩,hz1⟩;rw [hag k (by omega),Own.ext_old (by omega),hs1.agree k hk]
def JJ(B:Nat)(R:zp×Int)(t:List Nat)(ow:Own)(w W:World)(e:Ending)(w':World):Prop:=
 e=.returned (.int .i64 R.2)/\∃ow',zq t ow w ow' w'/\jC B R.1 t ow' w'/\∀k,w.heap.size<=k->k<W.heap.size->w'.heap[k]?=W.heap[k]?/\ow' k=[]
theorem JK(B:Nat)(n:zp)(t:List Nat)(ht:t≠ [])(ow:Own)(w:World)(h:jC B n t ow w)(hcap:vz n.store)(b:Bool)(ts:List (List UInt8))(h0:0<ts.length)(hn:ts.length<=1000)(hl:ts.flatten.length<=1073741000)
 (W:World) (hb:Below w.heap.size w W) (kb kc g:Nat) (h1:w.heap.size<=kb) (h2:w.heap.size<=kc) (k0:Blk W kb #[.pointer (some ⟨B,0,none⟩)] 43) (k1:Blk W kc #[.bool b] 4) (kg:Blk W g (yD ts).toArray 9):
 Calls prog 136 #[.slice (some ⟨g,0,none⟩) ts.length ts.length,.pointer (some ⟨kb,0,none⟩),.pointer (some ⟨kc,0,none⟩)] W (JJ B (yf n b ts.flatten) t ow w W):=by
 have hsrc:Src W (.slice (some ⟨g,0,none⟩) ts.length ts.length) 1 ts.length (yD ts):=by
  have:=jM (n:=ts.length) (size:=1) (cap:=ts.length) kg (by simp [yD]) (N0 _)
  simpa using this
 refine(zi4 B n t (ow.cut w) b kb kc _ ts W ((jC.loc B n t).cut h hb) hcap k0 k1 (Own.cut_new h1) (Own.cut_new h2) hsrc h0 hn hl).mono ?_;rintro e w'⟨rfl,ow',hs,hN⟩;exact⟨rfl,ow',zq.wrap hb hs,hN,λk a b=>hs.free ht a b⟩
theorem zbt {p:xn}{i:Int}{b:Nat}(h:(zC p i b).2.2.2≠0):(zC p i b).1=p:=by
 unfold zC at*
 split at h
 ·rename_i h0;rw [if_pos h0]
 ·rename_i h0;rw [if_neg h0]
  split at h
  ·rename_i h1;rw [if_pos h1]
  ·simp at h
theorem zhj {p:xn}{i:Int}{b:Nat}{x:List UInt8}(h:(vy p i b x).2.2≠0):(vy p i b x).1=p:=by
 unfold vy at*
 split at h
 ·rename_i h0;rw [if_pos h0]
 ·rename_i h0;rw [if_neg h0]
  split at h
  ·rename_i h1;rw [if_pos h1]
  ·simp at h
theorem zhk(p:xn)(i:Int)(b:Nat)(x:List UInt8):(vy p i b x).2.1.length<=13+x.length:=by
 unfold vy
 split
 ·simp
 ·split
  ·simp
  ·simp [xr,le8,zY];omega
theorem zbu(p:xn)(i:Int)(b:Nat):(zC p i b).2.2.1.length<=13:=by
 unfold zC
 split
 ·simp
 ·split
  ·simp
  ·simp [xr,le8,zY]
theorem zhl {px sb lb pb:Nat}{av:Value}(B:Nat)(n:zp)(t:List Nat)(ht:t≠ [])(ow:Own)(i:Int)(b:Nat)(hb:b<18446744073709551616)(x:List UInt8)(hx:x.length<=1000000)(w:World)(hN:zx B px sb lb pb av n t ow w)(hcap:vz n.store):
 Calls prog 201 #[.pointer (some ⟨B,0,none⟩),.int .i64 i,.int .u64 b,.string (bs x)] w (vL B (yE n i b x).1 t ow w (.int .i64 (yE n i b x).2)):=by
 have hB:=hN.blk;have hr:=vX w hB;have hcast:=λW hW=>zfe px n.pax (t++ [0]) (by simp) ow i b hb x hx W hW
 have hcn:yE n i b x=if n.down then(n,170)else if(vy n.pax i b x).2.2≠0 then(n,(vy n.pax i b x).2.2)else yf {n with pax:=(vy n.pax i b x).1} true (vy n.pax i b x).2.1:=rfl
 have hlen:=zhk n.pax i b x;have herr:= @zhj n.pax i b x;unfold zz at hB;unfold Jw at hr;have e0:=hB.cell;obtain⟨⟨p',rc,er⟩,hcp⟩:∃q,vy n.pax i b x=q:=⟨_,rfl⟩;rw [hcp] at hcast hcn hlen herr;unfold Y9 at hcast;simp only at hcast hcn hlen herr;replace hcp:=hid hcp;replace hcast:=hid hcast;replace herr:=hid herr
 by_cases hd:n.down=true
 ·rw [if_pos hd] at hcn
  rw [hd] at hr;rw [hcn];replace hcn:=hid hcn;replace hr:=hid hr;replace hd:=hid hd
  go_enter func201,ntmps201
  go_wp2_with fail
  refine hr.out.mono ?_;rintro e w1⟨rfl,hw1⟩;obtain rfl:=hw1.symm;go_wp2;go_ret
  exact⟨rfl,ow,zq.refl _ _ _,_,_,_,_,_,hN⟩
 ·have hd':n.down=false:=by simpa using hd
  rw [if_neg hd] at hcn;rw [hd'] at hr;replace hr:=hid hr;replace hd:=hid hd;replace hd':=hid hd'
  by_cases he:er=0
  ·subst he
   rw [if_neg (by simp)] at hcn;rw [hcn];have hkp:=λow1 w1 h1 W h2 kb kc g h3 h4 k0 k1 kg=>JK B {n with pax:=p'} t ht ow1 w1 h1 hcap true [rc] (by simp) (by simp) (by simp;omega) W h2 kb kc g h3 h4 k0 k1 kg
   rw [show [rc].flatten=rc by simp] at hkp;unfold JJ at hkp;replace hcn:=hid hcn
   generalize yf {n with pax:=p'} true rc=R at*
   replace hkp:=hid hkp
   go_enter func201,ntmps201
   go_wp2_with fail
   refine hr.out.mono ?_;rintro e w1⟨rfl,hw1⟩;obtain rfl:=hw1.symm;go_wp2_with fail
   refine(hcast.out _ hN.pax).mono ?_;rintro e w1⟨rfl,ow1,hs1,h1⟩;have hN1:=hN.setPax p' hs1 h1;go_wp2_with fail
   refine(vY _ _ _).mono ?_;rintro e w2⟨rfl,rfl⟩;go_wp2_with fail
   refine(hkp.out ow1 w1 ⟨_,_,_,_,_,hN1⟩ (((w1.alloc (.cells #[.pointer (some ⟨B,0,none⟩)] 43)).alloc (.cells #[.bool true] 4)).alloc (.cells #[.string (bs rc)] 9)) (pbx) w1.heap.size (w1.heap.size+1) _ (N0 _) (by omega) (bkx) (bkx) (Blk.new (by simp))).mono ?_;rintro e w3⟨rfl,ow3,hs3,hN3, -⟩;go_wp2;go_ret
   exact⟨rfl,ow3,(hs1.mono (Sub.child t 0)).trans hs3,hN3⟩
  ·rw [if_pos he] at hcn
   rw [hcn];have t1:(er !=0)=true:=by simpa using he
   have hp':=herr.out he;subst hp';replace hcn:=hid hcn;replace he:=hid he
   go_enter func201,ntmps201
   go_wp2_with fail
   refine hr.out.mono ?_;rintro e w1⟨rfl,hw1⟩;obtain rfl:=hw1.symm;go_wp2_with fail
   refine(hcast.out _ hN.pax).mono ?_;rintro e w1⟨rfl,ow1,hs1,h1⟩;have hN1:=hN.setPax _ hs1 h1;go_wp2;go_ret
   exact⟨rfl,ow1,hs1.mono (Sub.child t 0),_,_,_,_,_,hN1⟩
theorem xU {B:Nat}{n:zp}{t:List Nat}(ht:t≠ []){ow:Own}{W:World}(h:jC B n t ow W){D:Nat}(hD:ow D=[])(a b c:Value):jC B n t ow (((W.setCell ⟨D,0,none⟩ a).setCell ⟨D,1,none⟩ b).setCell ⟨D,2,none⟩ c):=
 jC.loc B n t _ _ _ _ h (by simp) (λk hk hs=>by
  have hne:k≠D:=λe=>by subst e;rw [hD] at hs;exact zj ht hs
  exact⟨rfl,(N4 _ _ _ _ hne).trans ((N4 _ _ _ _ hne).trans (N4 _ _ _ _ hne))⟩)
theorem zbv {px sb lb pb:Nat}{av:Value}(B:Nat)(n:zp)(t:List Nat)(ht:t≠ [])(ow:Own)(i:Int)(b:Nat)(hb:b<18446744073709551616)(w:World)(hN:zx B px sb lb pb av n t ow w)(hcap:vz n.store):
 Calls prog 202 #[.pointer (some ⟨B,0,none⟩),.int .i64 i,.int .u64 b] w (vL B (zA n i b).1 t ow w (zaa (zA n i b).2)):=by
 have hB:=hN.blk;have hr:=λW hW=>vX (B:=B) (px:=px) (sb:=sb) (lb:=lb) (pb:=pb) (av:=av) (n:=n) W hW
 have hprom:=λW hW=>zab px n.pax (t++ [0]) (by simp) (ow.cut w) i b hb W hW
 have hpn:zA n i b=if n.down then(n,(0,0,[]),170)
  else if(zC n.pax i b).2.2.2≠0 then(n,(0,0,[]),(zC n.pax i b).2.2.2)
  else if(yf {n with pax:=(zC n.pax i b).1} true (zC n.pax i b).2.2.1).2≠0 then((yf {n with pax:=(zC n.pax i b).1} true (zC n.pax i b).2.2.1).1,(0,0,[]),(yf {n with pax:=(zC n.pax i b).1} true (zC n.pax i b).2.2.1).2)
  else((yf {n with pax:=(zC n.pax i b).1} true (zC n.pax i b).2.2.1).1,(zC n.pax i b).2.1,0):=rfl
 have hlen:=zbu n.pax i b;have herr:= @zbt n.pax i b;unfold zz at hB;have e0:=hB.cell;have l0:=hB.lt;obtain⟨⟨p',⟨v1,v2,v3⟩,rc,er⟩,hcp⟩:∃q,zC n.pax i b=q:=⟨_,rfl⟩;rw [hcp] at hprom hpn hlen herr;unfold zhd at hprom;unfold zaa yN at*;simp only at hprom hpn hlen herr;have hNa:=(zx.loc B px sb lb pb av n t).cut hN ((N2 w.heap.size w).alloc (N0 _) (.cells #[.int .u64 0,.int .u64 0,.string ⟨#[]⟩] 317));replace hcp:=hid hcp;replace hprom:=hid hprom;replace herr:=hid herr;have hrW:=hr _ hNa.blk;unfold Jw at hrW;clear hr
 by_cases hd:n.down=true
 ·rw [if_pos hd] at hpn
  rw [hd] at hrW;rw [hpn];replace hpn:=hid hpn;replace hrW:=hid hrW;replace hd:=hid hd
  go_enter func202,ntmps202
  go_wp2_with fail
  refine hrW.out.mono ?_;rintro e w1⟨rfl,hw1⟩;obtain rfl:=hw1.symm;go_wp2;exact bodyPost_ret (v:=.tuple #[.agg #[.int .u64 0,.int .u64 0,.string ⟨#[]⟩],.int .i64 170]) (by simp [results,Tryz.results202,go_sem]) rfl ⟨rfl,ow,zq.of_below t ow (pbx),_,_,_,_,_,(zx.loc B px sb lb pb av n t).below hN (pbx)⟩
 ·have hd':n.down=false:=by simpa using hd
  rw [if_neg hd] at hpn;rw [hd'] at hrW;replace hrW:=hid hrW;replace hd:=hid hd;replace hd':=hid hd'
  by_cases he:er=0
  ·subst he
   rw [if_neg (by simp)] at hpn;have hkp:=λow1 w1 h1 W h2 kb kc g h3 h4 k0 k1 kg=>JK B {n with pax:=p'} t ht ow1 w1 h1 hcap true [rc] (by simp) (by simp) (by simp;omega) W h2 kb kc g h3 h4 k0 k1 kg
   rw [show [rc].flatten=rc by simp] at hkp;unfold JJ at hkp;obtain⟨⟨m,ek⟩,hm⟩:∃R,yf {n with pax:=p'} true rc=R:=⟨_,rfl⟩;rw [hm] at hkp hpn;simp only at hkp hpn;replace hkp:=hid hkp;replace hm:=hid hm
   by_cases hek:ek=0
   ·subst hek
    rw [if_neg (by simp)] at hpn;rw [hpn];have t2:((0:Int) !=0)=false:=rfl;replace hpn:=hid hpn
    go_enter func202,ntmps202
    go_wp2_with fail
    refine hrW.out.mono ?_;rintro e w1⟨rfl,hw1⟩;obtain rfl:=hw1.symm;go_wp2_with fail
    refine(hprom.out _ hNa.pax).mono ?_;rintro e w1⟨rfl,ow1,hs1,h1⟩;have hN1:=hNa.setPax _ hs1 h1;have k6:=(Blk.new (w:=w) (cs:=#[.int .u64 0,.int .u64 0,.string ⟨#[]⟩]) (t:=317) rfl).kept (hs1.free (by simp) (N0 _) (by simp)).1;have ho6:=(hs1.free (by simp) (N0 _) (by simp)).2;have hstep1:zq t ow w ow1 w1:=zq.wrap (w:=w) ((N2 w.heap.size w).alloc (N0 _) (.cells #[.int .u64 0,.int .u64 0,.string ⟨#[]⟩] 317)) (hs1.mono (Sub.child t 0));have hz1:=hstep1.size;have l6:=k6.lt;go_wp2_with fail
    refine(vY _ _ _).mono ?_;rintro e w2⟨rfl,rfl⟩;obtain⟨Wc,hWc⟩:∃Wc,Wc=(((w1.alloc (.cells #[.int .u64 v1,.int .u64 v2,.string (bs v3)] 317)).alloc (.cells #[.pointer (some ⟨B,0,none⟩)] 43)).alloc (.cells #[.bool true] 4)).alloc (.cells #[.string (bs rc)] 9):=⟨_,rfl⟩;have hbc:Below w1.heap.size w1 Wc:=by rw [hWc];exact pbx
    have kv:Blk Wc w1.heap.size #[.int .u64 v1,.int .u64 v2,.string (bs v3)] 317:=by rw [hWc];exact bkx
    have kk0:Blk Wc (w1.heap.size+1) #[.pointer (some ⟨B,0,none⟩)] 43:=by rw [hWc];exact bkx
    have kk1:Blk Wc (w1.heap.size+1+1) #[.bool true] 4:=by rw [hWc];exact bkx
    have kk2:Blk Wc (w1.heap.size+1+1+1) #[.string (bs rc)] 9:=by rw [hWc];exact bkx
    go_wp2_with fail
    rw [← hWc];clear hWc;refine(hkp.out ow1 w1 ⟨_,_,_,_,_,hN1⟩ Wc hbc (w1.heap.size+1) (w1.heap.size+1+1) _ (by omega) (by omega) kk0 kk1 kk2).mono ?_;rintro e w3⟨rfl,ow3,hs3,hN3,hkept⟩;have hlc:=kv.lt;have kv3:=kv.kept (hkept _ (N0 _) hlc).1;have k6c:=k6.kept (hbc.block _ l6);have k63:Blk w3 w.heap.size #[.int .u64 0,.int .u64 0,.string ⟨#[]⟩] 317:=k6.kept (hs3.block l6 (by rw [ho6];exact zj ht));have ho63:ow3 w.heap.size=[]:=(hs3.agree _ l6).trans ho6;have hstep3:zq t ow w ow3 w3:=hstep1.trans hs3;have cv3:=kv3.cell;have lv3:=kv3.lt;have c63:=k63.cell;have f63:=k63.frozen;have l63:=k63.lt;have rr:=(((k63.set (o:=0) (.int .u64 v1)).set (o:=1) (.int .u64 v2)).set (o:=2) (.string (bs v3))).cell;go_wp2;exact bodyPost_ret (v:=.tuple #[.agg #[.int .u64 v1,.int .u64 v2,.string (bs v3)],.int .i64 0]) (by simp [results,Tryz.results202,go_sem,rr]) rfl ⟨rfl,ow3,((hstep3.setNew ⟨w.heap.size,0,none⟩ _ (N0 _)).setNew ⟨w.heap.size,1,none⟩ _ (N0 _)).setNew ⟨w.heap.size,2,none⟩ _ (N0 _),xU ht hN3 ho63 _ _ _⟩
   ·rw [if_pos hek] at hpn
    rw [hpn];have t2:(ek !=0)=true:=by simpa using hek
    replace hpn:=hid hpn;replace hek:=hid hek
    go_enter func202,ntmps202
    go_wp2_with fail
    refine hrW.out.mono ?_;rintro e w1⟨rfl,hw1⟩;obtain rfl:=hw1.symm;go_wp2_with fail
    refine(hprom.out _ hNa.pax).mono ?_;rintro e w1⟨rfl,ow1,hs1,h1⟩;have hN1:=hNa.setPax _ hs1 h1;have k6:=(Blk.new (w:=w) (cs:=#[.int .u64 0,.int .u64 0,.string ⟨#[]⟩]) (t:=317) rfl).kept (hs1.free (by simp) (N0 _) (by simp)).1;have ho6:=(hs1.free (by simp) (N0 _) (by simp)).2;have hstep1:zq t ow w ow1 w1:=zq.wrap (w:=w) ((N2 w.heap.size w).alloc (N0 _) (.cells #[.int .u64 0,.int .u64 0,.string ⟨#[]⟩] 317)) (hs1.mono (Sub.child t 0));have hz1:=hstep1.size;have l6:=k6.lt;go_wp2_with fail
    refine(vY _ _ _).mono ?_;rintro e w2⟨rfl,rfl⟩;obtain⟨Wc,hWc⟩:∃Wc,Wc=(((w1.alloc (.cells #[.int .u64 v1,.int .u64 v2,.string (bs v3)] 317)).alloc (.cells #[.pointer (some ⟨B,0,none⟩)] 43)).alloc (.cells #[.bool true] 4)).alloc (.cells #[.string (bs rc)] 9):=⟨_,rfl⟩;have hbc:Below w1.heap.size w1 Wc:=by rw [hWc];exact pbx
    have kv:Blk Wc w1.heap.size #[.int .u64 v1,.int .u64 v2,.string (bs v3)] 317:=by rw [hWc];exact bkx
    have kk0:Blk Wc (w1.heap.size+1) #[.pointer (some ⟨B,0,none⟩)] 43:=by rw [hWc];exact bkx
    have kk1:Blk Wc (w1.heap.size+1+1) #[.bool true] 4:=by rw [hWc];exact bkx
    have kk2:Blk Wc (w1.heap.size+1+1+1) #[.string (bs rc)] 9:=by rw [hWc];exact bkx
    go_wp2_with fail
    rw [← hWc];clear hWc;refine(hkp.out ow1 w1 ⟨_,_,_,_,_,hN1⟩ Wc hbc (w1.heap.size+1) (w1.heap.size+1+1) _ (by omega) (by omega) kk0 kk1 kk2).mono ?_;rintro e w3⟨rfl,ow3,hs3,hN3,hkept⟩;have hlc:=kv.lt;have kv3:=kv.kept (hkept _ (N0 _) hlc).1;have k6c:=k6.kept (hbc.block _ l6);have k63:Blk w3 w.heap.size #[.int .u64 0,.int .u64 0,.string ⟨#[]⟩] 317:=k6.kept (hs3.block l6 (by rw [ho6];exact zj ht));have ho63:ow3 w.heap.size=[]:=(hs3.agree _ l6).trans ho6;have hstep3:zq t ow w ow3 w3:=hstep1.trans hs3;have cv3:=kv3.cell;have lv3:=kv3.lt;have c63:=k63.cell;have f63:=k63.frozen;have l63:=k63.lt;have rr:=(((k63.set (o:=0) (.int .u64 0)).set (o:=1) (.int .u64 0)).set (o:=2) (.string ⟨#[]⟩)).cell;go_wp2;exact bodyPost_ret (v:=.tuple #[.agg #[.int .u64 0,.int .u64 0,.string ⟨#[]⟩],.int .i64 ek]) (by simp [results,Tryz.results202,go_sem,rr]) rfl ⟨rfl,ow3,((hstep3.setNew ⟨w.heap.size,0,none⟩ _ (N0 _)).setNew ⟨w.heap.size,1,none⟩ _ (N0 _)).setNew ⟨w.heap.size,2,none⟩ _ (N0 _),xU ht hN3 ho63 _ _ _⟩
  ·rw [if_pos he] at hpn
   rw [hpn];have t1:(er !=0)=true:=by simpa using he
   have hp':=herr.out he;subst hp';replace hpn:=hid hpn;replace he:=hid he
   go_enter func202,ntmps202
   go_wp2_with fail
   refine hrW.out.mono ?_;rintro e w1⟨rfl,hw1⟩;obtain rfl:=hw1.symm;go_wp2_with fail
   refine(hprom.out _ hNa.pax).mono ?_;rintro e w1⟨rfl,ow1,hs1,h1⟩;have hN1:=hNa.setPax _ hs1 h1;have k6:=(Blk.new (w:=w) (cs:=#[.int .u64 0,.int .u64 0,.string ⟨#[]⟩]) (t:=317) rfl).kept (hs1.free (by simp) (N0 _) (by simp)).1;have ho6:=(hs1.free (by simp) (N0 _) (by simp)).2;have c6:=k6.cell;have f6:=k6.frozen;have l6:=k6.lt;have rr:=((((k6.set (o:=0) (.int .u64 0)).set (o:=1) (.int .u64 0)).set (o:=2) (.string ⟨#[]⟩)).alloc (.cells #[.int .u64 v1,.int .u64 v2,.string (bs v3)] 317)).cell;have hstep1:zq t ow w ow1 w1:=zq.wrap (w:=w) ((N2 w.heap.size w).alloc (N0 _) (.cells #[.int .u64 0,.int .u64 0,.string ⟨#[]⟩] 317)) (hs1.mono (Sub.child t 0));go_wp2;refine bodyPost_ret (v:=.tuple #[.agg #[.int .u64 0,.int .u64 0,.string ⟨#[]⟩],.int .i64 er]) (by simp [results,Tryz.results202,go_sem,rr]) rfl ⟨rfl,ow1,?_,?_⟩
   ·exact(((hstep1.setNew ⟨w.heap.size,0,none⟩ _ (N0 _)).setNew ⟨w.heap.size,1,none⟩ _ (N0 _)).setNew ⟨w.heap.size,2,none⟩ _ (N0 _)).trans (zq.alloc _ _ _ _)
   ·exact(jC.loc B n t).below (xU ht ⟨_,_,_,_,_,hN1⟩ ho6 _ _ _) ((N2 _ _).alloc (N0 _) _)
theorem zhm(ep:Nat)(ve st:Int)(w:World):(Instr.field 197 (.agg #[.int .u32 ep,.int .i64 ve,.int .i64 st]) 1).run prog w=.ok (.int .i64 ve) w:=by
 first|kernel_rfl|rfl|simp [go_sem]
theorem zhn {px sb lb pb:Nat}{av:Value}(B:Nat)(n:zp)(t:List Nat)(ow:Own)(v:Int)(w:World)(hN:zx B px sb lb pb av n t ow w)(hl:n.loc.fold.eras.length<=536870912):
 Calls prog 64 #[.pointer (some ⟨B,0,none⟩),.int .i64 v] w (vL B (ZY n v).1 t ow w (.int .i64 (ZY n v).2)):=by
 have hB:=hN.blk;have hr:=vX w hB;have hera:=λW hW=>Vh lb n.loc (t++ [2]) ow W hW hl
 have hwn:ZY n v=if n.down then(n,170)else if j2 (vk n.loc.fold.eras).2.1 v≠0 then(n,j2 (vk n.loc.fold.eras).2.1 v)else({n with wanted:=v},0):=rfl
 have hw:=λm W (W':World) (h:zx B px sb lb pb av n t ow W)=>h.setOwn (W':=W') m
 unfold zz at hB hw;unfold Jw at hr;have e0:=hB.cell;obtain⟨⟨ep,ve,st⟩,hn⟩:∃x,vk n.loc.fold.eras=x:=⟨_,rfl⟩;rw [hn] at hera hwn;unfold Js at hera;simp only at hera hwn;have hf0:=zhm ep ve st;replace hera:=hid hera;replace hn:=hid hn;replace hw:=hid hw
 by_cases hd:n.down=true
 ·rw [if_pos hd] at hwn
  rw [hd] at hr;rw [hwn];replace hwn:=hid hwn;replace hr:=hid hr;replace hd:=hid hd
  go_enter func64,ntmps64
  go_wp2_with fail
  refine hr.out.mono ?_;rintro e w1⟨rfl,hw1⟩;obtain rfl:=hw1.symm;go_wp2;go_ret
  exact⟨rfl,ow,zq.refl _ _ _,_,_,_,_,_,hN⟩
 ·have hd':n.down=false:=by simpa using hd
  rw [if_neg hd] at hwn;rw [hd'] at hr;replace hr:=hid hr;replace hd:=hid hd;replace hd':=hid hd';obtain⟨er,her⟩:∃er,j2 ve v=er:=⟨_,rfl⟩;have hck:=λW=>xJ ve v W
  rw [her] at hck hwn;replace her:=hid her;replace hck:=hid hck
  by_cases he:er=0
  ·subst he
   rw [if_neg (by simp)] at hwn;rw [hwn];replace hwn:=hid hwn
   go_enter func64,ntmps64
   go_wp2_with fail
   refine hr.out.mono ?_;rintro e w1⟨rfl,hw1⟩;obtain rfl:=hw1.symm;go_wp2_with fail
   refine(hera.out _ hN.lo).mono ?_;rintro e w1⟨rfl,hb1⟩;go_wp2_with fail
   refine(hck.out _).mono ?_;rintro e w2⟨rfl,hb2⟩;have hb:=zg hb1 hb2;have kB2:=hB.call hb;have c2:=kB2.cell;have f2:=kB2.frozen;have l2:=kB2.lt;go_wp2;go_ret
   have hq:=hw.out {n with wanted:=v} w2 (w2.setCell ⟨B,10,none⟩ (.int .i64 v)) ((zx.loc B px sb lb pb av n t).below hN hb) ((Mod.refl (λk=>k=B) w2).thenSet (p:=⟨B,10,none⟩) rfl _) (kB2.set (o:=10) _) rfl rfl rfl rfl rfl rfl;exact⟨rfl,ow,(zq.of_below t ow hb).trans hq.1,_,_,_,_,_,hq.2⟩
  ·rw [if_pos he] at hwn
   rw [hwn];have t1:(er !=0)=true:=by simpa using he
   replace hwn:=hid hwn;replace he:=hid he
   go_enter func64,ntmps64
   go_wp2_with fail
   refine hr.out.mono ?_;rintro e w1⟨rfl,hw1⟩;obtain rfl:=hw1.symm;go_wp2_with fail
   refine(hera.out _ hN.lo).mono ?_;rintro e w1⟨rfl,hb1⟩;go_wp2_with fail
   refine(hck.out _).mono ?_;rintro e w2⟨rfl,hb2⟩;have hb:=zg hb1 hb2;go_wp2;go_ret
   exact⟨rfl,ow,zq.of_below t ow hb,_,_,_,_,_,(zx.loc B px sb lb pb av n t).below hN hb⟩
theorem zx.setAcc {B px sb lb pb:Nat}{av v':Value}{n:zp}{t:List Nat}{ow:Own}{W W4:World}(h:zx B px sb lb pb av n t ow W)(l:List zy)(hrow:Row W4 78 3 v' (n.acc.length+l.length) (n.acc.flatMap zh++l.flatMap zh))
 (hgr:W.grownBy W4 av.ownBlock) (hown:v'.ownBlock=av.ownBlock∨v'.ownBlock=some W.heap.size):
 zq t ow W (ow.ext W.heap.size (λk=>v'.ownBlock=some k) (t++ [4])) (W4.setCell ⟨B,7,none⟩ v')/\zx B px sb lb pb v' {n with acc:=n.acc++l} t (ow.ext W.heap.size (λk=>v'.ownBlock=some k) (t++ [4])) (W4.setCell ⟨B,7,none⟩ v'):=by
 have hneB:∀g,av.ownBlock=some g->g≠B:=λg hg=>h.row.ne_blk h.blk (by decide) hg
 have hBl:=h.blk.lt;have kB4:=h.blk.kept (hgr.block B hBl (λe=>hneB B e.symm rfl))
 have hg5:∀g,v'.ownBlock=some g->(av.ownBlock=some g∨g=W.heap.size):=λg hg=>by
  rw [hg] at hown
  rcases hown with h|h
  ·exact .inl h.symm
  ·right;simpa using h
 have hM:Mod (λk=>k=B∨av.ownBlock=some k) W (W4.setCell ⟨B,7,none⟩ v'):=(Mod.grown (X:=λk=>k=B∨av.ownBlock=some k) hgr (λk h=>.inr h)).thenSet (p:=⟨B,7,none⟩) (.inl rfl) _
 have hk:∀(i:Nat),i≠4->∀k,k<W.heap.size->Sub (t++ [i]) (ow k)->(ow.ext W.heap.size (λk=>v'.ownBlock=some k) (t++ [4])) k=ow k/\(W4.setCell ⟨B,7,none⟩ v').heap[k]?=W.heap[k]?:=λi hi k hk hs=>⟨Own.ext_old hk,hM.block k hk (λe=>by
  rcases e with e|e
  ·subst e;exact qq t i h.own hs
  ·exact Z6 t hi (h.rown k e) hs)⟩
 refine⟨⟨hM.mono (λk _ e=>?_),λk hk=>Own.ext_old hk⟩,⟨kB4.set (o:=7) _,j4.loc _ _ _ _ _ _ _ h.pax hM.size (hk 0 (by decide)),jp.loc _ _ _ _ _ _ _ h.st hM.size (hk 1 (by decide)),zI.loc _ _ _ _ _ _ _ h.lo hM.size (hk 2 (by decide)),jU.loc _ _ _ _ _ _ _ h.pool hM.size (hk 3 (by decide)),?_,?_,λg hg=>?_,h.bad⟩⟩
 ·rcases e with e|e
  ·subst e;rw [h.own];exact Sub.rfl' _
  ·rw [h.rown k e];exact Sub.child t 4
 ·show Row _ _ 3 v' (n.acc++l).length ((n.acc++l).flatMap zh)
  rw [N1,U5];refine Row.kept (w:=W4) hrow (λg hg=>N4 _ _ _ _ (show g≠B from ?_))
  rcases hg5 g hg with h1|h1
  ·exact hneB g h1
  ·omega
 ·rw [Own.ext_old hBl,h.own]
 ·rcases hg5 g hg with h1|h1
  ·rw [Own.ext_old (h.row.lt h1),h.rown g h1]
  ·rw [Own.ext_new (by omega) hg]
