/- PARTS OF THE PROOF. -/
import Derived.Test.YtobnhnidffipjaaGreatDoorQ03
import Derived.Test.YtobnhnidffipjaaGreatDoorQ09
import Derived.Test.YtobnhnidffipjaaGreatDoorQ10
set_option maxRecDepth 8000
set_option maxHeartbeats 4000000
open Go.Proofs.Tryz
namespace Go.Proofs.YtobnhnidffipjaaGreatDoor
section
open Go Go.RowKit Go.Shelf Go.Extern.Stop Go.Stop Go.Extern
attribute [local go_sem] Oper.semAt_some zw zn
abbrev StD:=Int×Nat×List UInt8
structure ja where
 fold:yG
 st:StD
 blk:Bool
 held:List zD
 log:List zD
def Y3(s:StD)(v:Int)(fails:Bool):StD:=if s.1≠v/\fails=false/\(j4 s.1 s.2.1 s.2.2 v).2=0 then(j4 s.1 s.2.1 s.2.2 v).1 else s
def j5(L:ja)(v:Int)(fails:Bool):ja:={L with st:=Y3 L.st v fails,blk:=decide ((Y3 L.st v fails).1≠v)}
def qE(L:ja)(l:List zD):ja:={L with held:=L.held++l}
def yM(L:ja):ja×List zD:=if L.blk then(L,[])else({L with held:=[],log:=L.log++L.held},L.held)
def zij(L:ja)(R:yG×List zD×Bool×Int)(fails:Bool):ja:=if R.2.2.1 then j5 {L with fold:=R.1} (vC R.1.eras).2.1 fails else {L with fold:=R.1}
def ye(L:ja)(e:jF)(fails:Bool):ja×List zD×Int:=
 if(j0 L.fold e).2.2.2≠0 then({L with fold:=(j0 L.fold e).1},[],(j0 L.fold e).2.2.2)
 else((yM (qE (zij L (j0 L.fold e) fails) (j0 L.fold e).2.1)).1,(yM (qE (zij L (j0 L.fold e) fails) (j0 L.fold e).2.1)).2,0)
def zhT(v:Int)(s:StD):ja:={fold:=Za v,st:=s,blk:=false,held:=[],log:=[] }
theorem Qa {v:Int}{c:Nat}{d:List UInt8}{vto:Int}(h:(j4 v c d vto).2=0):(j4 v c d vto).1.1=vto/\known vto=true:=by
 unfold j4 at h⊢
 split at h
 ·rename_i h0;exact absurd h h0
 ·rename_i h0
  have h1:=VC (Decidable.not_not.1 h0);have hk:known vto=true:=by simp [known];omega
  rw [if_neg h0]
  split at h
  ·simp at h
  ·rename_i h2
   rw [if_neg h2]
   split at h
   ·exact⟨rfl,hk⟩
   ·simp at h
theorem zcr {s:StD}(h:known s.1=true)(v:Int)(fails:Bool):known (Y3 s v fails).1=true:=by
 unfold Y3
 split
 ·rename_i hh
  have:=Qa hh.2.2;rw [this.1];exact this.2
 ·exact h
def jN(fb:Nat)(hv lv:Value)(L:ja):Array Value:=#[.pointer (some ⟨fb,0,none⟩),.int .i64 L.st.1,.int .u32 L.st.2.1,.string (bs L.st.2.2),.bool L.blk,hv,lv]
def zK(B:Nat)(L:ja)(t:List Nat)(ow:Own)(W:World):Prop:=
 known L.st.1=true/\∃fb hv lv,Blk W B (jN fb hv lv L) 103/\zH fb L.fold (t++ [0]) ow W/\Row W 34 3 hv L.held.length (L.held.flatMap zh)/\Row W 34 3 lv L.log.length (L.log.flatMap zh)/\
  ow B=t/\(∀g,hv.ownBlock=some g->ow g=t++ [1])/\∀g,lv.ownBlock=some g->ow g=t++ [2]
theorem zK.loc(B:Nat)(L:ja)(t:List Nat):yH t (zK B L t):=by
 rintro ow ow' W W'⟨hk0,fb,hv,lv,hB,hF,hH,hG,o1,o2,o3⟩ hs hk;have kB:=hk B hB.lt (by rw [o1];exact Sub.rfl' t);have kH:∀g,hv.ownBlock=some g->ow' g=ow g/\W'.heap[g]?=W.heap[g]?:=λg hg=>hk g (hH.lt hg) (by rw [o2 g hg];exact Sub.child t 1)
 have kG:∀g,lv.ownBlock=some g->ow' g=ow g/\W'.heap[g]?=W.heap[g]?:=λg hg=>hk g (hG.lt hg) (by rw [o3 g hg];exact Sub.child t 2)
 refine⟨hk0,fb,hv,lv,hB.kept kB.2,?_,hH.kept (λg hg=>(kH g hg).2),hG.kept (λg hg=>(kG g hg).2),kB.1.trans o1,λg hg=>(kH g hg).1.trans (o2 g hg),λg hg=>(kG g hg).1.trans (o3 g hg)⟩;exact(zH.loc fb L.fold (t++ [0])) ow ow' W W' hF hs (λk hk1 hk2=>hk k hk1 ((Sub.child t 0).trans hk2))
def zaS(B:Nat)(L:ja)(t:List Nat)(ow:Own)(w:World)(v:Value)(e:Ending)(w':World):Prop:=
 e=.returned v/\∃ow',zq t ow w ow' w'/\zK B L t ow' w'
theorem VD(a:Addr)(w:World):(binOp .eql 60 (.pointer (some a)) (.pointer none)).run prog w=.ok (.bool false) w:=by kernel_rfl
theorem zdP {v:Int}(h:known v=true):v≠0:=by
 simp [known] at h;omega
theorem ZB(B:Nat)(L:ja)(t:List Nat)(ow:Own)(w:World)(h:zK B L t ow w):Calls prog 40 #[.pointer (some ⟨B,0,none⟩)] w λe w'=>e=.returned (.bool false)/\w'=w:=by
 obtain⟨hk,fb,hv,lv,hB, -⟩:=h;have h0:=VD ⟨B,0,none⟩ w;have h1:(L.st.1==0)=false:=by simpa using zdP hk
 have h2:L.st.1≠0:=zdP hk;have e0:=hB.cell;unfold jN at e0;clear hB hk
 go_enter func40,ntmps40
 go_wp2;go_ret
 exact⟨rfl,rfl⟩
theorem YK(B:Nat)(L:ja)(t:List Nat)(ow:Own)(w:World)(h:zK B L t ow w):Calls prog 136 #[.pointer (some ⟨B,0,none⟩)] w λe w'=>e=.returned (.bool L.blk)/\w'=w:=by
 have hn:=ZB B L t ow w h;obtain⟨hk,fb,hv,lv,hB, -⟩:=h;have e0:=hB.cell;unfold jN at e0;clear hB hk;replace hn:=G hn
 go_enter func136,ntmps136
 go_wp2_with (go_at_call 40;refine hn.out.mono ?_;rintro e w1 ⟨rfl,rfl⟩)
 go_ret
 exact⟨rfl,rfl⟩
theorem QR(B:Nat)(L:ja)(t:List Nat)(ow:Own)(w:World)(h:zK B L t ow w)(hl:L.log.length<=1073741824):Calls prog 25 #[.pointer (some ⟨B,0,none⟩)] w λe w'=>
 ∃v',e=.returned v'/\Row w' 34 3 v' L.log.length (L.log.flatMap zh)/\Below w.heap.size w w'/\(∀g,v'.ownBlock=some g->w.heap.size<=g):=by
 have hn:=ZB B L t ow w h;obtain⟨hk,fb,hv,lv,hB,hF,hH,hG, -⟩:=h;have e0:=hB.cell;unfold jN at e0;have hc:=Vw lv L.log w hG.src hl;replace hn:=G hn;replace hc:=G hc;clear hB hk hF hH hG
 go_enter func25,ntmps25
 go_wp2_with (first
  |(go_at_call 40;refine hn.out.mono ?_;rintro e w1 ⟨rfl,rfl⟩)
  |(go_at_call 41;refine hc.out.mono ?_;rintro e w2 ⟨v',rfl,h1,h2,h3⟩;replace h3:Hid (∀_,_):=h3))
 go_ret
 exact⟨_,rfl,h1,h2,h3.out⟩
theorem zeK(B:Nat)(L:ja)(t:List Nat)(ow:Own)(w:World)(h:zK B L t ow w)(hl:L.held.length<=1073741824):Calls prog 182 #[.pointer (some ⟨B,0,none⟩)] w λe w'=>
 ∃v',e=.returned v'/\Row w' 34 3 v' L.held.length (L.held.flatMap zh)/\Below w.heap.size w w'/\(∀g,v'.ownBlock=some g->w.heap.size<=g):=by
 have hn:=ZB B L t ow w h;obtain⟨hk,fb,hv,lv,hB,hF,hH,hG, -⟩:=h;have e0:=hB.cell;unfold jN at e0;have hc:=Vw hv L.held w hH.src hl;replace hn:=G hn;replace hc:=G hc;clear hB hk hF hH hG
 go_enter func182,ntmps182
 go_wp2_with (first
  |(go_at_call 40;refine hn.out.mono ?_;rintro e w1 ⟨rfl,rfl⟩)
  |(go_at_call 41;refine hc.out.mono ?_;rintro e w2 ⟨v',rfl,h1,h2,h3⟩;replace h3:Hid (∀_,_):=h3))
 go_ret
 exact⟨_,rfl,h1,h2,h3.out⟩
end
section
open Go Go.RowKit Go.Shelf Go.Extern.Stop Go.Stop Go.Extern
attribute [local go_sem] Oper.semAt_some zw zn
def zkN(x:Zx):Array Value:=#[.int .u32 x.1,.int .i64 x.2.1,.int .i64 x.2.2]
theorem zgA {l:List Zx}{k:Nat}{x:Zx}(h:l[k]?=some x):vC (l.take (k+1))=x:=by
 unfold vC;rw [List.take_add_one,h];simp
theorem QS(B:Nat)(L:ja)(t:List Nat)(ow:Own)(w:World)(h:zK B L t ow w)(hl:L.fold.eras.length<=536870912):Calls prog 135 #[.pointer (some ⟨B,0,none⟩)] w λe w'=>e=.returned (Jz (vC L.fold.eras))/\Below w.heap.size w w':=by
 obtain⟨hk,fb,hv,lv,hB,hF, -⟩:=h;have he:=zdK fb L.fold (t++ [0]) ow;have hb0:=hB.cell 0;have hBl:=hB.lt;replace hb0:w.cell? ⟨B,0,none⟩=some (.pointer (some ⟨fb,0,none⟩)):=hb0;have hcell:=λW (hW:Below w.heap.size w W)=>(hW.cell (p:=⟨B,0,none⟩) hBl).trans hb0
 clear hB hk
 generalize L.fold.eras=l at*
 obtain⟨⟨ep,ve,st⟩,hn⟩:∃n,vC l=n:=⟨_,rfl⟩;rw [hn];unfold Jz;replace hn:=G hn;replace he:=G he;replace hF:=G hF;replace hcell:=G hcell;obtain⟨N,hN⟩:∃N,N=w.heap.size:=⟨_,rfl⟩
 go_enter func135,ntmps135
 go_wp2_with fail
 refine(he.out _ ((zH.loc fb L.fold _).below hF.out (pbx)) hl).mono ?_;rintro e w1⟨ev,rfl,hR,hb1,hfr⟩;have k2:Blk w1 w.heap.size #[.int .u32 0,.int .i64 0,.int .i64 0] 173:=Blk.call (bkx) hb1;have k3:Blk w1 (w.heap.size+1) #[.int .u32 0,.int .i64 0,.int .i64 0] 173:=Blk.call (bkx) hb1;have hbw:Below w.heap.size w w1:=pbx;have hz:w.heap.size+2<=w1.heap.size:=by have:=hb1.size;simp at this;omega
 have hfr2:∀g,ev.ownBlock=some g->w.heap.size+1<g:=λg hg=>by have:=hfr g hg;simp at this;omega
 clear hb1 hfr he hF hcell hN;obtain⟨ea,ec,rfl⟩:=hR.src.shape;replace hR:=G hR;replace k2:=G k2;replace k3:=G k3;replace hfr2:=G hfr2;go_wp2
 go_loopw [12] (λp12 wr=>∃k:Nat,p12=.int .i64 k/\k<=l.length/\Blk wr w.heap.size #[.int .u32 0,.int .i64 0,.int .i64 0] 173/\Blk wr (w.heap.size+1) (zkN (vC (l.take k))) 173/\Below w.heap.size w wr/\w.heap.size+2<=wr.heap.size/\Row wr 173 3 (.slice ea l.length ec) l.length (l.flatMap jf)) (λp12 _=>l.length - (intOf p12).toNat)
 case atStart=>exact⟨0,rfl,Nat.zero_le _,k2.out,k3.out,hbw,hz,hR.out⟩
 case round=>
  obtain⟨k,rfl,hkl,q2,q3,hbr,hzr,hRr⟩:=hrel;clear k2 k3 hbw hz hR
  by_cases hlt:k<l.length
  ·obtain⟨⟨ep',ve',st'⟩,hx⟩:∃x,l[k]?=some x:=⟨_,N3 hlt⟩
   have htk:=zgA hx
   rcases hRr.form with⟨-,h, -⟩|⟨g,cap',h,hcc, -⟩
   ·omega
   cases h
   have hcell:∀q,q<3->wr.cell? ⟨g,k*3+q,none⟩=(jf (ep',ve',st'))[q]?:=λq hq=>by
    have h1:=ZA l k _ hx q hq;rw [← h1,hRr.cellAt _ (by omega)]
   have c0:wr.cell? ⟨g,k*3,none⟩=some (.int .u32 ep'):=hcell 0 (by omega);have c1:wr.cell? ⟨g,k*3+1,none⟩=some (.int .i64 ve'):=hcell 1 (by omega);have c2:wr.cell? ⟨g,k*3+2,none⟩=some (.int .i64 st'):=hcell 2 (by omega);have l3:=q3.lt;have f3:=q3.frozen;have q3c:=q3.cell;unfold zkN at q3c;have hg:=hfr2.out g rfl;have hgl:=hRr.lt (g:=g) rfl;have z0:(0:Int)<=k:=by omega
   have z1:(k:Int)<(l.length:Int):=by omega
   replace hRr:=G hRr;replace q2:=G q2;replace q3:=G q3;replace htk:=G htk;clear hcell hx;go_wp2
   go_roundw
   case rel=>
    refine⟨k+1,by go_num,by omega,?_,?_,?_,?_,?_⟩
    ·exact Blk.alloc (((q2.out.other (show w.heap.size≠w.heap.size+1 by omega) _).other (show w.heap.size≠w.heap.size+1 by omega) _).other (show w.heap.size≠w.heap.size+1 by omega) _) _
    ·rw [htk.out]
     exact Blk.alloc (((q3.out.set (o:=0) (.int .u32 ep')).set (o:=1) (.int .i64 ve')).set (o:=2) (.int .i64 st')) _
    ·exact zg (zm (zm (zm hbr (by simp) _) (by simp) _) (by simp) _) _
    ·simp;omega
    ·refine Row.below (hRr.out.kept (λg' hg'=>?_)) (zg (N2 _ _) _)
     cases hg'
     rw [N4 _ _ _ _ (show g≠w.heap.size+1 by omega),N4 _ _ _ _ (show g≠w.heap.size+1 by omega),N4 _ _ _ _ (show g≠w.heap.size+1 by omega)]
   case measure=>simp [intOf];omega
  ·have hkk:k=l.length:=by omega
   subst hkk;rw [List.take_length] at q3;have q3c:=q3.cell;have q2c:=q2.cell;have f2:=q2.frozen;have l2:=q2.lt;unfold zkN at q3c;rw [hn.out] at q3c;simp only at q3c;clear hRr;have r1:=(((q2.set (o:=0) (.int .u32 ep)).set (o:=1) (.int .i64 ve)).set (o:=2) (.int .i64 st)).cell;go_wp2;exact bodyPost_ret (v:=.agg #[.int .u32 ep,.int .i64 ve,.int .i64 st]) (by simp [results,Tryz.results135,go_sem,r1]) rfl ⟨rfl,zm (zm (zm hbr (by simp) _) (by simp) _) (by simp) _⟩
theorem Ve(B:Nat)(L:ja)(t:List Nat)(ow:Own)(w:World)(h:zK B L t ow w)(hl:L.fold.eras.length<=536870912):Calls prog 98 #[.pointer (some ⟨B,0,none⟩)] w λe w'=>e=.returned (Jz (vC L.fold.eras))/\Below w.heap.size w w':=by
 have hnow:=QS B L t ow;have hnil:=ZB B L t ow;obtain⟨⟨ep,ve,st⟩,hn⟩:∃n,vC L.fold.eras=n:=⟨_,rfl⟩;rw [hn] at hnow⊢;unfold Jz at hnow⊢;replace hnow:=G hnow;replace hnil:=G hnil;replace h:=G h;replace hn:=G hn
 go_enter func98,ntmps98
 go_wp2_with fail
 refine(hnil.out _ ((zK.loc B L t).below h.out (pbx))).mono ?_;rintro e w1⟨rfl,rfl⟩;go_wp2_with fail
 refine(hnow.out _ ((zK.loc B L t).below h.out (pbx)) hl).mono ?_;rintro e w1⟨rfl,hb1⟩;have k:Blk w1 w.heap.size #[.int .u32 0,.int .i64 0,.int .i64 0] 173:=Blk.call (bkx) hb1;have kc:=k.cell;have kf:=k.frozen;have kl:=k.lt;have hbw:Below w.heap.size w w1:=pbx;have r1:=(((k.set (o:=0) (.int .u32 ep)).set (o:=1) (.int .i64 ve)).set (o:=2) (.int .i64 st)).cell;go_wp2;exact bodyPost_ret (v:=.agg #[.int .u32 ep,.int .i64 ve,.int .i64 st]) (by simp [results,Tryz.results98,go_sem,r1]) rfl ⟨rfl,zm (zm (zm hbw (by simp) _) (by simp) _) (by simp) _⟩
theorem zik(B:Nat)(L:ja)(t:List Nat)(ow:Own)(w:World)(h:zK B L t ow w)(hb:L.blk=false):Calls prog 101 #[.pointer (some ⟨B,0,none⟩)] w λe w'=>e=.returned (.tuple #[.agg #[.int .i64 0,.int .u32 0,.int .i64 0,.slice none 0 0],.bool false])/\Below w.heap.size w w':=by
 have hblk:=YK B L t ow;rw [hb] at hblk;replace hblk:=G hblk;replace h:=G h;replace hb:=G hb
 go_enter func101,ntmps101
 go_wp2_with fail
 refine(hblk.out _ ((zK.loc B L t).below h.out (pbx))).mono ?_;rintro e w1⟨rfl,rfl⟩;go_wp2;exact bodyPost_ret (v:=.tuple #[.agg #[.int .i64 0,.int .u32 0,.int .i64 0,.slice none 0 0],.bool false]) (by simp [results,Tryz.results101,go_sem]) rfl ⟨rfl,pbx⟩
theorem zgB(B:Nat)(L:ja)(t:List Nat)(ow:Own)(w:World)(h:zK B L t ow w)(hb:L.blk=true)(hl:L.fold.eras.length<=536870912):Calls prog 101 #[.pointer (some ⟨B,0,none⟩)] w λe w'=>e=.returned (.tuple #[.agg #[.int .i64 3,.int .u32 (vC L.fold.eras).1,.int .i64 0,.slice none 0 0],.bool true])/\Below w.heap.size w w':=by
 have hblk:=YK B L t ow;rw [hb] at hblk;have hnow:=QS B L t ow;obtain⟨⟨ep,ve,st⟩,hn⟩:∃n,vC L.fold.eras=n:=⟨_,rfl⟩;rw [hn] at hnow⊢;unfold Jz at hnow;have hf0:=zgk ep ve st;replace hnow:=G hnow;replace hblk:=G hblk;replace h:=G h;replace hb:=G hb;replace hn:=G hn
 go_enter func101,ntmps101
 go_wp2_with fail
 refine(hblk.out _ ((zK.loc B L t).below h.out (pbx))).mono ?_;rintro e w1⟨rfl,rfl⟩;go_wp2_with fail
 refine(hnow.out _ ((zK.loc B L t).below h.out (pbx)) hl).mono ?_;rintro e w1⟨rfl,hb1⟩;have k:Blk w1 w.heap.size #[.int .i64 0,.int .u32 0,.int .i64 0,.slice none 0 0] 178:=Blk.call (bkx) hb1;have kc:=k.cell;have kf:=k.frozen;have kl:=k.lt;have hbw:Below w.heap.size w w1:=pbx;have r1:=((((k.set (o:=0) (.int .i64 3)).set (o:=1) (.int .u32 ep)).set (o:=2) (.int .i64 0)).set (o:=3) (.slice none 0 0)).cell;go_wp2;exact bodyPost_ret (v:=.tuple #[.agg #[.int .i64 3,.int .u32 ep,.int .i64 0,.slice none 0 0],.bool true]) (by simp [results,Tryz.results101,go_sem,r1]) rfl ⟨rfl,zm (zm (zm (zm hbw (by simp) _) (by simp) _) (by simp) _) (by simp) _⟩
end
section
open Go Go.RowKit Go.Shelf Go.Extern.Stop Go.Stop Go.Extern
attribute [local go_sem] Oper.semAt_some zw zn
theorem zcs {B fb:Nat}{L L':ja}{t:List Nat}{ow:Own}{w W':World}{hv lv:Value}(hk:known L'.st.1=true)(hB:Blk w B (jN fb hv lv L) 103)(hF:zH fb L.fold (t++ [0]) ow w)
 (hH:Row w 34 3 hv L.held.length (L.held.flatMap zh)) (hG:Row w 34 3 lv L.log.length (L.log.flatMap zh)) (o1:ow B=t) (o2:∀g,hv.ownBlock=some g->ow g=t++ [1]) (o3:∀g,lv.ownBlock=some g->ow g=t++ [2])
 (hM:Mod (λk=>k=B) w W') (hB':Blk W' B (jN fb hv lv L') 103) (e1:L'.fold=L.fold) (e2:L'.held=L.held) (e3:L'.log=L.log):zq t ow w (ow.cut w) W'/\zK B L' t (ow.cut w) W':=by
 refine⟨⟨hM.mono (λk _ e=>by subst e;rw [o1];exact Sub.rfl' t),λk hk=>Own.cut_old hk⟩,hk,fb,hv,lv,hB',?_,?_,?_,?_,?_,?_⟩
 ·rw [e1]
  exact zH.loc fb L.fold (t++ [0]) _ _ _ _ hF hM.size (λk hk hs=>⟨Own.cut_old hk,hM.block k hk (λe=>by subst e;rw [o1] at hs;exact zN t 0 hs)⟩)
 ·rw [e2];exact hH.mod hM (λg hg=>hH.ne_blk hB (by decide) hg)
 ·rw [e3];exact hG.mod hM (λg hg=>hG.ne_blk hB (by decide) hg)
 ·rw [Own.cut_old hB.lt,o1]
 ·intro g hg;rw [Own.cut_old (hH.lt hg),o2 g hg]
 ·intro g hg;rw [Own.cut_old (hG.lt hg),o3 g hg]
theorem zaT(a:Addr)(B:Nat)(L:ja)(t:List Nat)(ow:Own)(v:Int)(fails:Bool)(w:World)(he:jA w a)(h:zK B L t ow w):
 Calls prog 218 #[.pointer (some ⟨B,0,none⟩),.int .i64 v,.bool fails] w (zaS B (j5 L v fails) t ow w (.tuple #[])):=by
 obtain⟨hk,fb,hv,lv,hB,hF,hH,hG,o1,o2,o3⟩:=h;have hw:=λ(L':ja)(W':World)(hk':known L'.st.1=true)(hM:Mod (λk=>k=B) w W') (hB':Blk W' B (jN fb hv lv L') 103) (e1:L'.fold=L.fold) (e2:L'.held=L.held) (e3:L'.log=L.log)=>zcs hk' hB hF hH hG o1 o2 o3 hM hB' e1 e2 e3
 clear hF hH hG o1 o2 o3;have hkn:=zcr hk v fails;unfold jN at hB hw;have e0:=hB.cell;have f0:=hB.frozen;have l0:=hB.lt;obtain⟨fo,⟨sv,sc,sd⟩,bl,he',lo⟩:=L;simp only at*;replace hw:=G hw;replace hkn:=G hkn;replace hk:=G hk
 by_cases h1:sv=v
 ·have t1:(sv !=v)=false:=by simp [h1]
  have hm:Y3 (sv,sc,sd) v fails=(sv,sc,sd):=by unfold Y3;rw [if_neg (by simp [h1])]
  have hL:j5 ⟨fo,(sv,sc,sd),bl,he',lo⟩ v fails=⟨fo,(sv,sc,sd),false,he',lo⟩:=by unfold j5;simp only [hm];simp [h1]
  rw [hL];replace hm:=G hm;replace hL:=G hL;replace hB:=G hB;replace h1:=G h1
  go_enter func218,ntmps218
  go_wp2;go_end0
  have hq:=hw.out ⟨fo,(sv,sc,sd),false,he',lo⟩ (w.setCell ⟨B,4,none⟩ (.bool false)) hk.out (Mod.setCell w _ _ rfl) (hB.out.set (o:=4) (.bool false)) rfl rfl rfl;exact⟨rfl,_,hq.1,hq.2⟩
 ·have t1:(sv !=v)=true:=by simp [h1]
  cases fails
  ·obtain⟨⟨⟨v',c',d'⟩,er⟩,hmg⟩:∃x,j4 sv sc sd v=x:=⟨_,rfl⟩
   have hcall:=λW (hW:Below w.heap.size w W)=>X9 hmg W (he.below hW he.lt)
   by_cases h2:er=0
   ·subst h2
    have hto:=Qa (v:=sv) (c:=sc) (d:=sd) (vto:=v) (by rw [hmg]);rw [hmg] at hto;obtain⟨hv',hkv⟩:=hto;simp only at hv';subst hv';have hm:Y3 (sv,sc,sd) v' false=(v',c',d'):=by unfold Y3;rw [if_pos ⟨h1,rfl,by rw [hmg]⟩,hmg]
    have hL:j5 ⟨fo,(sv,sc,sd),bl,he',lo⟩ v' false=⟨fo,(v',c',d'),false,he',lo⟩:=by unfold j5;simp only [hm];simp
    rw [hL];replace hm:=G hm;replace hL:=G hL;replace hB:=G hB;replace h1:=G h1;replace hmg:=G hmg;replace hkv:=G hkv;replace hcall:=G hcall
    go_enter func218,ntmps218
    go_wp2_with fail
    refine(hcall.out _ (N2 _ _)).mono ?_;rintro e w1⟨rfl,hb1⟩;have k1:=hB.out.call hb1;have e1:=k1.cell;have f1:=k1.frozen;have l1:=k1.lt;replace k1:=G k1;clear e0 f0;go_wp2;go_end0
    have hq:=hw.out ⟨fo,(v',c',d'),false,he',lo⟩ (((((w1.setCell ⟨B,1,none⟩ (.int .i64 v')).setCell ⟨B,2,none⟩ (.int .u32 c')).setCell ⟨B,3,none⟩ (.string (bs d'))).setCell ⟨B,4,none⟩ (.bool false)).alloc (.cells #[.int .i64 v',.int .u32 c',.string (bs d')] 101)) hkv.out
     ((((((Mod.of_below (λk=>k=B) hb1).thenSet (p:=⟨B,1,none⟩) rfl _).thenSet (p:=⟨B,2,none⟩) rfl _).thenSet (p:=⟨B,3,none⟩) rfl _).thenSet (p:=⟨B,4,none⟩) rfl _).thenAlloc _)
     (Blk.alloc ((((k1.out.set (o:=1) (.int .i64 v')).set (o:=2) (.int .u32 c')).set (o:=3) (.string (bs d'))).set (o:=4) (.bool false)) _) rfl rfl rfl
    exact⟨rfl,_,hq.1,hq.2⟩
   ·have t2:(er==0)=false:=by simpa using h2
    have hm:Y3 (sv,sc,sd) v false=(sv,sc,sd):=by unfold Y3;rw [if_neg (by rw [hmg];simp [h2])]
    have hL:j5 ⟨fo,(sv,sc,sd),bl,he',lo⟩ v false=⟨fo,(sv,sc,sd),true,he',lo⟩:=by unfold j5;simp only [hm];simp [h1]
    rw [hL];replace hm:=G hm;replace hL:=G hL;replace hB:=G hB;replace h1:=G h1;replace h2:=G h2;replace hmg:=G hmg;replace hcall:=G hcall
    go_enter func218,ntmps218
    go_wp2_with fail
    refine(hcall.out _ (N2 _ _)).mono ?_;rintro e w1⟨rfl,hb1⟩;have k1:=hB.out.call hb1;have e1:=k1.cell;have f1:=k1.frozen;have l1:=k1.lt;replace k1:=G k1;clear e0 f0;go_wp2;go_end0
    have hq:=hw.out ⟨fo,(sv,sc,sd),true,he',lo⟩ ((w1.setCell ⟨B,4,none⟩ (.bool true)).alloc (.cells #[.int .i64 v',.int .u32 c',.string (bs d')] 101)) hk.out
     (((Mod.of_below (λk=>k=B) hb1).thenSet (p:=⟨B,4,none⟩) rfl _).thenAlloc _)
     (Blk.alloc (k1.out.set (o:=4) (.bool true)) _) rfl rfl rfl
    exact⟨rfl,_,hq.1,hq.2⟩
  ·have hm:Y3 (sv,sc,sd) v true=(sv,sc,sd):=by unfold Y3;rw [if_neg (by simp)]
   have hL:j5 ⟨fo,(sv,sc,sd),bl,he',lo⟩ v true=⟨fo,(sv,sc,sd),true,he',lo⟩:=by unfold j5;simp only [hm];simp [h1]
   rw [hL];replace hm:=G hm;replace hL:=G hL;replace hB:=G hB;replace h1:=G h1
   go_enter func218,ntmps218
   go_wp2;go_end0
   have hq:=hw.out ⟨fo,(sv,sc,sd),true,he',lo⟩ (w.setCell ⟨B,4,none⟩ (.bool true)) hk.out (Mod.setCell w _ _ rfl) (hB.out.set (o:=4) (.bool true)) rfl rfl rfl;exact⟨rfl,_,hq.1,hq.2⟩
theorem zaU(B:Nat)(L:ja)(t:List Nat)(ow:Own)(mv:Value)(ms:List zD)(w:World)(h:zK B L t ow w)(hm:Src w mv 3 ms.length (ms.flatMap zh))(hl:L.held.length+ms.length<=1073741824):
 Calls prog 219 #[.pointer (some ⟨B,0,none⟩),mv] w (zaS B (qE L ms) t ow w (.tuple #[])):=by
 obtain⟨hk,fb,hv,lv,hB,hF,hH,hG,o1,o2,o3⟩:=h;unfold jN at hB;have e0:=hB.cell;have l0:=hB.lt;obtain⟨ma,mc,rfl⟩:=hm.shape;obtain⟨ha,hn,hc,rfl⟩:=hH.shape;obtain⟨hv',W3,hrun,hrow,hgr,hown⟩:=zI zb6 hH hm (jp ms) hl 57;have hneB:(Value.slice ha hn hc).ownBlock≠some B:=λe=>(hH.ne_blk hB (by decide) e) rfl
 have k3:=hB.kept (hgr.block B hB.lt (λe=>hneB e.symm));have f3:=k3.frozen;have l3:=k3.lt;have c3:=k3.cell;obtain⟨sa,sm,sc,rfl⟩:=hrow.shape;clear hm;replace hB:=G hB;replace hF:=G hF;replace hH:=G hH;replace hG:=G hG;replace hrow:=G hrow;replace k3:=G k3;replace o2:=G o2;replace o3:=G o3;replace hown:=G hown;replace hneB:=G hneB;replace hk:=G hk
 go_enter func219,ntmps219
 go_wp2_with (at_builtin
              refine zu rfl _ _ _ rfl rfl rfl hrun ?_)
 go_end0
 have hg5:∀g,(Value.slice sa sm sc).ownBlock=some g->((Value.slice ha hn hc).ownBlock=some g∨g=w.heap.size):=λg hg=>by
  have:=hown.out;rw [hg] at this
  rcases this with h|h
  ·exact .inl h.symm
  ·right;simpa using h
 have hoth:∀k,k<w.heap.size->k≠B->(Value.slice ha hn hc).ownBlock≠some k->(W3.setCell ⟨B,5,none⟩ (.slice sa sm sc)).heap[k]?=w.heap[k]?:=λk hk1 h1 h2=>
  (N4 _ _ _ _ h1).trans (hgr.block k hk1 (λe=>h2 e.symm))
 refine⟨rfl,ow.ext w.heap.size (λk=>(Value.slice sa sm sc).ownBlock=some k) (t++ [1]),⟨?_,λk hk=>Own.ext_old hk⟩,hk.out,fb,.slice sa sm sc,lv,k3.out.set (o:=5) _,?_,?_,?_,?_,?_,?_⟩
 ·exact(Mod.grown (X:=λk=>Sub t (ow k)) hgr (λk h=>by rw [o2.out k h];exact Sub.child t 1)).thenSet (p:=⟨B,5,none⟩) (by simp only [o1];exact Sub.rfl' t) _
 ·refine zH.loc fb L.fold (t++ [0]) _ _ _ _ hF.out (by have:=hgr.size;simpa using this) (λk hk1 hs=>⟨Own.ext_old hk1,hoth k hk1 (λe=>by subst e;rw [o1] at hs;exact zN t 0 hs) (λe=>?_)⟩)
  rw [o2.out k e] at hs;exact(zM t (show(0:Nat)≠1 by omega)).1 hs
 ·unfold qE
  simp only [N1,U5];refine hrow.out.kept (λg hg=>N4 _ _ _ _ (λe=>?_));have e':g=B:=e;subst e'
  rcases hg5 g hg with h|h
  ·exact hneB.out h
  ·omega
 ·refine hG.out.kept (λg hg=>hoth g (hG.out.lt hg) (λe=>?_) (λe=>?_))
  ·subst e;have:=o3.out g hg;rw [o1] at this;simp at this
  ·have h1:=o3.out g hg
   rw [o2.out g e] at h1;simp at h1
 ·rw [Own.ext_old l0,o1]
 ·intro g hg
  rcases hg5 g hg with h|h
  ·rw [Own.ext_old (hH.out.lt h),o2.out g h]
  ·rw [Own.ext_new (by omega) hg]
 ·intro g hg;rw [Own.ext_old (hG.out.lt hg),o3.out g hg]
end
open Go
def zZ(d:List UInt8):List UInt8×Int:=if 4096<d.length then([],30)else(qD ([52] ++le4 d.length++d),0)
def jm(s:List UInt8):List UInt8×Nat:=
 if s.length<9 then([],0)
 else if s.head?≠some 52 then([],0)
 else if 4096<yq ((s.drop 1).take 4)then([],0)
 else if s.length<9+yq ((s.drop 1).take 4)then([],0)
 else match vG (s.take (9+yq ((s.drop 1).take 4)))with
  |none=>([],0)
  |some b=>(b.drop 5,9+yq ((s.drop 1).take 4))
def xp:Nat->List UInt8->List (List UInt8)×Nat
 |0,_=>([],0)
 |n+1,s=>if(jm s).2=0 then([],0)else((jm s).1::(xp n (s.drop (jm s).2)).1,(jm s).2+(xp n (s.drop (jm s).2)).2)
structure j1 where
 log:List UInt8
 cap:Int
 isCut:Bool
 keep:Int
 crashed:Bool
def qG(cap:Int):j1:={log:=[],cap:=cap,isCut:=false,keep:=0,crashed:=false}
def jg(s:j1)(d:List UInt8):j1×Int:=
 if s.crashed then(s,31)
 else if(zZ d).2≠0 then(s,30)
 else if s.cap<s.log.length+(zZ d).1.length then(s,30)
 else if s.isCut=false then({s with log:=s.log++(zZ d).1},0)
 else({s with log:=s.log++(zZ d).1.take (min s.keep (zZ d).1.length).toNat,isCut:=false,keep:=0,crashed:=true},31)
def zct(s:j1)(keep:Int):j1×Int:=if s.crashed then(s,31)else if keep<0 then(s,2)else({s with isCut:=true,keep:=keep},0)
def jq(s:j1):j1×List (List UInt8):=({s with log:=s.log.take (xp s.log.length s.log).2,isCut:=false,keep:=0,crashed:=false},(xp s.log.length s.log).1)
abbrev jn:=Nat×Nat×List UInt8
def ys(v:jn):Bool:= !(decide (v.2.1=0)&& !v.2.2.isEmpty)&& decide (v.2.1<=v.1)&& decide (v.2.2.length<=4000)
def yx(v:jn)(b:Nat):jn×Int:=
 if ys v=false∨b<1 then((0,0,[]),2)else if b<=v.1 then((0,0,[]),80)else((b,v.2),0)
def VE(v:jn)(b:Nat)(x:List UInt8):jn×Int:=
 if ys v=false∨b<1∨4000<x.length then((0,0,[]),2)else if b<v.1 then((0,0,[]),80)else((b,b,x),0)
structure xl where
 votes:List (Int×jn)
 known:List (Int×List UInt8)
 length:Nat
def qe:xl:={votes:=[],known:=[],length:=0}
def zP(i:Int):Bool:=decide (1<=i)&& decide (i<=10000)
def zO(p:xl)(i:Int):jn:=(zJ i p.votes).getD (0,0,[])
def le8(n:Nat):List UInt8:=le4 n++le4 (n / 4294967296)
def qX(kind:UInt8)(i:Int)(more:List UInt8):List UInt8:=[kind] ++le4 (i.toNat % 4294967296)++more
def zB(p:xl)(i:Int)(b:Nat):xl×jn×List UInt8×Int:=
 if zP i=false then(p,(0,0,[]),[],2)
 else if(yx (zO p i) b).2≠0 then(p,(0,0,[]),[],(yx (zO p i) b).2)
 else({p with votes:=put i (yx (zO p i) b).1 p.votes},(yx (zO p i) b).1,qX 112 i (le8 b),0)
def vH(p:xl)(i:Int)(b:Nat)(x:List UInt8):xl×List UInt8×Int:=
 if zP i=false then(p,[],2)
 else if(VE (zO p i) b x).2≠0 then(p,[],(VE (zO p i) b x).2)
 else({p with votes:=put i (VE (zO p i) b x).1 p.votes},qX 118 i (le8 b++x),0)
def JC(known:List (Int×List UInt8)):Nat->Nat->Nat
 |0,at_=>at_
 |n+1,at_=>if(zJ ((at_:Int)+1) known).isSome/\at_<10000 then JC known n (at_+1)else at_
def zV(p:xl)(i:Int)(x:List UInt8):xl×List UInt8×Int:=
 if zP i=false∨4000<x.length then(p,[],2)
 else match zJ i p.known with
  |some y=>if y≠x then(p,[],91)else(p,[],0)
  |none=>({p with known:=put i x p.known,length:=JC (put i x p.known) 10000 p.length},qX 100 i x,0)
def jE(s:List UInt8):Option (UInt8×Int×Nat×List UInt8):=
 if s.length<5 then none
 else if 10000<yq ((s.drop 1).take 4)∨zP (yq ((s.drop 1).take 4))=false then none
 else if s.head?=some 100 then(if(s.drop 5).length<=4000 then some (100,yq ((s.drop 1).take 4),0,s.drop 5)else none)
 else if s.head?=some 112∨s.head?=some 118 then
  (if s.length<13 then none
   else if s.head?=some 112/\s.drop 13≠ [] then none
   else if 1<=yq ((s.drop 5).take 4)+4294967296*yq ((s.drop 9).take 4)/\(s.drop 13).length<=4000 then some (s.head?.getD 0,yq ((s.drop 1).take 4),yq ((s.drop 5).take 4)+4294967296*yq ((s.drop 9).take 4),s.drop 13)else none)
 else none
def xK(kind:UInt8)(v:jn)(b:Nat)(x:List UInt8):jn:=if kind=118/\v.2.1<=b then(max v.1 b,b,x)else(max v.1 b,v.2)
def yy(p:xl)(s:List UInt8):xl:=
 match jE s with
 |none=>p
 |some (k,i,b,x)=>if k=100 then(zV p i x).1 else if xK k (zO p i) b x=zO p i then p else {p with votes:=put i (xK k (zO p i) b x) p.votes}
def vI(s:List UInt8):zD×Nat:=
 if s.length<9 then(((0,0),[]),0)
 else if 1000<yq ((s.drop 5).take 4)∨s.length<9+yq ((s.drop 5).take 4)then(((0,0),[]),0)
 else if zG ((((s.head?.getD 0).toNat:Int),yq ((s.drop 1).take 4)),(s.drop 9).take (yq ((s.drop 5).take 4)))=false then(((0,0),[]),0)
 else(((((s.head?.getD 0).toNat:Int),yq ((s.drop 1).take 4)),(s.drop 9).take (yq ((s.drop 5).take 4))),9+yq ((s.drop 5).take 4))
def yI:Nat->List UInt8->Option (List zD)
 |0,s=>if s=[] then some [] else none
 |n+1,s=>if(vI s).2=0 then none else(yI n (s.drop (vI s).2)).map ((vI s).1::·)
def jI(s:List UInt8):List zD×Int:=
 match s with
 | []=>([],101)
 |b::r=>if 64<b.toNat then([],101)else match yI b.toNat r with|none=>([],101)|some l=>(l,0)
def jC(s:List UInt8):jF×Int:=
 if s.length<6∨4000<s.length then(⟨0,0,0,[]⟩,140)
 else if(jI (s.drop 6)).2≠0 then(⟨0,0,0,[]⟩,140)
 else if(vo ⟨(s.head?.getD 0).toNat,yq ((s.drop 1).take 4),((s.drop 5).head?.getD 0).toNat,(jI (s.drop 6)).1⟩)=(s,0)then(⟨(s.head?.getD 0).toNat,yq ((s.drop 1).take 4),((s.drop 5).head?.getD 0).toNat,(jI (s.drop 6)).1⟩,0)
 else(⟨0,0,0,[]⟩,140)
structure xL where
 waits:List (MId×zD)
 done:List (MId×Unit)
def qH:xL:={waits:=[],done:=[] }
def zgC(p:xL)(m:zD):xL×Int:=
 if zG m=false then(p,100)
 else if(zJ m.1 p.waits).isSome∨(zJ m.1 p.done).isSome then(p,0)
 else if 1000<=p.waits.length then(p,120)
 else({p with waits:=put m.1 m p.waits},0)
def qm(p:xL)(m:zD):xL:=if(zJ m.1 p.done).isSome then p else {waits:=del m.1 p.waits,done:=put m.1 () p.done}
def QT(p:xL)(l:List zD):xL:=if l.all zG then l.foldl qm p else p
def ltM(a b:zD):Bool:=decide (a.1.1<b.1.1)||(decide (a.1.1=b.1.1)&& decide (a.1.2<=b.1.2))
def zjB(m:zD):List zD->List zD
 | []=>[m]
 |x::l=>if ltM m x then m::x::l else x::zjB m l
def Zf(l:List zD):List zD:=l.foldr zjB []
def JD(p:xL)(most:Nat):List zD:=(Zf (p.waits.map (·.2))).take most
structure zv where
 id:Int
 version:Int
 bad:List Int
 store:j1
 pax:xl
 loc:ja
 pool:xL
 acc:List zD
 offered:Nat
 applied:Nat
 wanted:Int
 down:Bool
def qf(n:zv)(s:StD):zv:={n with pax:=qe,loc:=zhT n.version s,pool:=qH,acc:=[],offered:=0,applied:=0,wanted:=0}
def yj(n:zv)(ofPart:Bool)(d:List UInt8):zv×Int:=
 ({n with store:=(jg n.store d).1,down:=n.down||decide ((jg n.store d).2=31)||(ofPart && decide ((jg n.store d).2≠0))},(jg n.store d).2)
def j2:Nat->zv->zv
 |0,n=>n
 |k+1,n=>match n.acc[n.offered]? with
  |none=>n
  |some m=>if(zgC n.pool m).2=0 then j2 k {n with pool:=(zgC n.pool m).1,offered:=n.offered+1} else {n with pool:=(zgC n.pool m).1}
def Zg(n:zv):Int:=if n.down then 170 else 0
def jc(n:zv)(d:List UInt8):zv×zD×Int:=
 if n.down then(n,((0,0),[]),170)
 else if zG ((n.id,n.acc.length+1),d)=false then(n,((0,0),[]),100)
 else if(yj n false ([109] ++(yA [((n.id,n.acc.length+1),d)]).1)).2≠0 then((yj n false ([109] ++(yA [((n.id,n.acc.length+1),d)]).1)).1,((0,0),[]),(yj n false ([109] ++(yA [((n.id,n.acc.length+1),d)]).1)).2)
 else(j2 (n.acc.length+1) {(yj n false ([109] ++(yA [((n.id,n.acc.length+1),d)]).1)).1 with acc:=n.acc++ [((n.id,n.acc.length+1),d)] },((n.id,n.acc.length+1),d),0)
def j6(n:zv)(i:Int)(b:Nat):zv×jn×Int:=
 if n.down then(n,(0,0,[]),170)
 else if(zB n.pax i b).2.2.2≠0 then(n,(0,0,[]),(zB n.pax i b).2.2.2)
 else if(yj {n with pax:=(zB n.pax i b).1} true (zB n.pax i b).2.2.1).2≠0 then((yj {n with pax:=(zB n.pax i b).1} true (zB n.pax i b).2.2.1).1,(0,0,[]),(yj {n with pax:=(zB n.pax i b).1} true (zB n.pax i b).2.2.1).2)
 else((yj {n with pax:=(zB n.pax i b).1} true (zB n.pax i b).2.2.1).1,(zB n.pax i b).2.1,0)
def JE(n:zv)(i:Int)(b:Nat)(x:List UInt8):zv×Int:=
 if n.down then(n,170)
 else if(vH n.pax i b x).2.2≠0 then(n,(vH n.pax i b x).2.2)
 else yj {n with pax:=(vH n.pax i b x).1} true (vH n.pax i b x).2.1
def xM(n:zv)(e:jF):Int:=
 if e.kind=2 then e.ver else if e.kind=3 then(if 1<n.loc.fold.eras.length then((n.loc.fold.eras[n.loc.fold.eras.length - 2]?).getD (0,0,0)).2.1 else 0)else 0
def xu(n:zv)(e:jF):zv×List zD:=
 let R:=ye n.loc e (n.bad.contains (xM n e))
 let p:=QT (QT n.pool R.2.1) R.1.held
 (j2 (n.acc.length+1) {n with loc:=R.1,wanted:=if vC R.1.fold.eras=vC n.loc.fold.eras then n.wanted else 0,pool:=p},R.2.1)
def jD:Nat->zv->zv×List zD
 |0,n=>(n,[])
 |k+1,n=>match zJ ((n.applied:Int)+1) n.pax.known with
  |none=>(n,[])
  |some x=>
   if(jC x).2≠0 then jD k {n with applied:=n.applied+1}
   else((jD k (xu {n with applied:=n.applied+1} (jC x).1).1).1,(xu {n with applied:=n.applied+1} (jC x).1).2++(jD k (xu {n with applied:=n.applied+1} (jC x).1).1).2)
def qr(n:zv)(i:Int)(x:List UInt8):zv×List zD×Int:=
 if n.down then(n,[],170)
 else
  let r:=zV n.pax i x
  if r.2.2≠0 then(n,[],r.2.2)
  else if r.2.1=[] then((jD 10001 {n with pax:=r.1}).1,(jD 10001 {n with pax:=r.1}).2,0)
  else
   let q:=yj {n with pax:=r.1} true r.2.1
   if q.2≠0 then(q.1,[],q.2)else((jD 10001 q.1).1,(jD 10001 q.1).2,0)
def JF(known:List (Int×List UInt8)):Nat->Nat->Nat
 |0,i=>i
 |k+1,i=>if(zJ (i:Int) known).isSome then JF known k (i+1)else i
def vM(n:zv):Nat:=JF n.pax.known 10001 (n.applied+1)
def JG(e:jF):List UInt8×Bool:=((vo e).1,decide ((vo e).2=0))
def yf(era:Zx):List zD->List zD->List UInt8×Bool->List UInt8×Bool
 |_,[],r=>r
 |p,m::l,r=>if(JG ⟨1,era.1,0,p++ [m]⟩).2 then yf era (p++ [m]) l (JG ⟨1,era.1,0,p++ [m]⟩)else r
def yt(n:zv):List UInt8×Bool:=
 if n.down then([],false)
 else if n.loc.blk then JG ⟨3,(vC n.loc.fold.eras).1,0,[]⟩
 else if n.wanted≠0/\jW (vC n.loc.fold.eras).2.1 n.wanted=0 then JG ⟨2,(vC n.loc.fold.eras).1,n.wanted,[]⟩
 else yf (vC n.loc.fold.eras) [] (JD n.pool (if(if known (vC n.loc.fold.eras).2.1 then(if(vC n.loc.fold.eras).2.1=1 then(1:Int)else 2)else 0)=1 then 1 else 8)) ([],false)
def Z1(n:zv)(v:Int):zv×Int:=
 if n.down then(n,170)else if jW (vC n.loc.fold.eras).2.1 v≠0 then(n,jW (vC n.loc.fold.eras).2.1 v)else({n with wanted:=v},0)
def zcu(n:zv)(k:Int):zv×Int:=if n.down then(n,170)else({n with store:=(zct n.store k).1},(zct n.store k).2)
def xN(n:zv):zv×Int:=if n.down then(n,170)else({n with down:=true},0)
def j8(n:zv)(r:List UInt8):zv:=
 match r with
 | []=>n
 |k::d=>if k=109/\(jI d).2=0/\(jI d).1.length=1 then {n with acc:=n.acc++(jI d).1} else {n with pax:=yy n.pax r}
def yN(n:zv)(s:StD):zv:=
 let R:=jq n.store
 let m:=R.2.foldl j8 (qf {n with store:=R.1} s)
 {(j2 ((jD 10001 m).1.acc.length+1) (jD 10001 m).1)with down:=false}
