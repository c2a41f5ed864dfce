/- PARTS OF THE PROOF. -/
import Derived.Test.YtofppfoioodblaaGreatDoorDA07
import Derived.Test.YtofppfoioodblaaGreatDoorDA08
set_option maxRecDepth 8000
set_option maxHeartbeats 4000000
open Go.Proofs.Tryz
namespace Go.Proofs.YtofppfoioodblaaGreatDoor
section
open Go Go.RowKit Go.Shelf Go.Extern.Stop Go.Stop Go.Extern
attribute [local go_sem] Oper.semAt_some zB zo
abbrev StD:=Int×Nat×List UInt8
structure zQ where
 fold:yB
 st:StD
 blk:Bool
 held:List zx
 log:List zx
def VX(s:StD)(v:Int)(fails:Bool):StD:=if s.1≠v/\fails=false/\(yf s.1 s.2.1 s.2.2 v).2=0 then(yf s.1 s.2.1 s.2.2 v).1 else s
def yg(L:zQ)(v:Int)(fails:Bool):zQ:={L with st:=VX L.st v fails,blk:=decide ((VX L.st v fails).1≠v)}
def qQ(L:zQ)(l:List zx):zQ:={L with held:=L.held++l}
def yD(L:zQ):zQ×List zx:=if L.blk then(L,[])else({L with held:=[],log:=L.log++L.held},L.held)
def zjy(L:zQ)(R:yB×List zx×Bool×Int)(fails:Bool):zQ:=if R.2.2.1 then yg {L with fold:=R.1} (vo R.1.eras).2.1 fails else {L with fold:=R.1}
def j8(L:zQ)(e:jz)(fails:Bool):zQ×List zx×Int:=
 if(jX L.fold e).2.2.2≠0 then({L with fold:=(jX L.fold e).1},[],(jX L.fold e).2.2.2)
 else((yD (qQ (zjy L (jX L.fold e) fails) (jX L.fold e).2.1)).1,(yD (qQ (zjy L (jX L.fold e) fails) (jX L.fold e).2.1)).2,0)
def zjz(v:Int)(s:StD):zQ:={fold:=ZN v,st:=s,blk:=false,held:=[],log:=[] }
theorem Q2 {v:Int}{c:Nat}{d:List UInt8}{vto:Int}(h:(yf v c d vto).2=0):(yf v c d vto).1.1=vto/\known vto=true:=by
 unfold yf at h⊢
 split at h
 ·rename_i h0;exact absurd h h0
 rename_i h0
 have h1:=Xs (Decidable.not_not.1 h0);have hk:known vto=true:=by simp [known];omega
 rw [if_neg h0]
 split at h
 ·simp at h
 rename_i h2
 rw [if_neg h2]
 split at h
 ·exact⟨rfl,hk⟩
 simp at h
theorem zdS {s:StD}(h:known s.1=true)(v:Int)(fails:Bool):known (VX s v fails).1=true:=by
 unfold VX
 split
 ·rename_i hh
  have:=Q2 hh.2.2;rw [this.1];exact this.2
 exact h
def jQ(fb:Nat)(hv lv:Value)(L:zQ):Array Value:=#[.pointer (some ⟨fb,0,none⟩),.int .i64 L.st.1,.int .u32 L.st.2.1,.string (bs L.st.2.2),.bool L.blk,hv,lv]
def zL(B:Nat)(L:zQ)(t:List Nat)(ow:Own)(W:World):Prop:=
 known L.st.1=true/\∃fb hv lv,Blk W B (jQ fb hv lv L) 117/\zF fb L.fold (t++ [0]) ow W/\Row W 78 3 hv L.held.length (L.held.flatMap zh)/\Row W 78 3 lv L.log.length (L.log.flatMap zh)/\
  ow B=t/\(∀g,hv.ownBlock=some g->ow g=t++ [1])/\∀g,lv.ownBlock=some g->ow g=t++ [2]
theorem zL.loc(B:Nat)(L:zQ)(t:List Nat):yC t (zL B L t):=by
 rintro ow ow' W W'⟨aa,fb,hv,lv,hB,hF,hH,hG,o1,o2,o3⟩ hs hk;have kB:=hk B hB.lt (by rw [o1];exact Sub.rfl' t);have kH:∀g,hv.ownBlock=some g->ow' g=ow g/\W'.heap[g]?=W.heap[g]?:=λg hg=>hk g (hH.lt hg) (by rw [o2 g hg];exact Sub.child t 1)
 have kG:∀g,lv.ownBlock=some g->ow' g=ow g/\W'.heap[g]?=W.heap[g]?:=λg hg=>hk g (hG.lt hg) (by rw [o3 g hg];exact Sub.child t 2)
 refine⟨aa,fb,hv,lv,hB.kept kB.2,?_,hH.kept (λg hg=>(kH g hg).2),hG.kept (λg hg=>(kG g hg).2),kB.1.trans o1,λg hg=>(kH g hg).1.trans (o2 g hg),λg hg=>(kG g hg).1.trans (o3 g hg)⟩;exact(zF.loc fb L.fold (t++ [0])) ow ow' W W' hF hs (λk hk1 hk2=>hk k hk1 ((Sub.child t 0).trans hk2))
def zb8(B:Nat)(L:zQ)(t:List Nat)(ow:Own)(w:World)(v:Value)(e:Ending)(w':World):Prop:=
 e=.returned v/\∃ow',zp t ow w ow' w'/\zL B L t ow' w'
theorem Xt(a:Addr)(w:World):(binOp .eql 54 (.pointer (some a)) (.pointer none)).run prog w=.ok (.bool false) w:=by kernel_rfl
theorem ze6 {v:Int}(h:known v=true):v≠0:=by
 simp [known] at h;omega
theorem Jj(B:Nat)(L:zQ)(t:List Nat)(ow:Own)(w:World)(h:zL B L t ow w):Calls prog 41 #[.pointer (some ⟨B,0,none⟩)] w λe w'=>e=.returned (.bool false)/\w'=w:=by
 obtain⟨hk,fb,hv,lv,hB, -⟩:=h;have h0:=Xt ⟨B,0,none⟩ w;have h1:(L.st.1==0)=false:=by simpa using ze6 hk
 have h2:L.st.1≠0:=ze6 hk;have e0:=hB.cell;unfold jQ at e0;clear hB hk
 go_enter func41,ntmps41
 go_wp2;go_ret
 exact⟨rfl,rfl⟩
theorem VD(B:Nat)(L:zQ)(t:List Nat)(ow:Own)(w:World)(h:zL B L t ow w):Calls prog 184 #[.pointer (some ⟨B,0,none⟩)] w λe w'=>e=.returned (.bool L.blk)/\w'=w:=by
 have hn:=Jj B L t ow w h;obtain⟨hk,fb,hv,lv,hB, -⟩:=h;have e0:=hB.cell;unfold jQ at e0;clear hB hk;replace hn:=hid hn
 go_enter func184,ntmps184
 go_wp2_with (go_at_call 41;refine hn.out.mono ?_;rintro e w1 ⟨rfl,rfl⟩)
 go_ret
 exact⟨rfl,rfl⟩
theorem zaU(B:Nat)(L:zQ)(t:List Nat)(ow:Own)(w:World)(h:zL B L t ow w)(hl:L.log.length<=1073741824):Calls prog 22 #[.pointer (some ⟨B,0,none⟩)] w λe w'=>
 ∃v',e=.returned v'/\Row w' 78 3 v' L.log.length (L.log.flatMap zh)/\Below w.heap.size w w'/\(∀g,v'.ownBlock=some g->w.heap.size<=g):=by
 have hn:=Jj B L t ow w h;obtain⟨hk,fb,hv,lv,hB,hF,hH,hG, -⟩:=h;have e0:=hB.cell;unfold jQ at e0;have hc:=Xn lv L.log w hG.src hl;replace hn:=hid hn;replace hc:=hid hc;clear hB hk hF hH hG
 go_enter func22,ntmps22
 go_wp2_with (first
  |(go_at_call 41;refine hn.out.mono ?_;rintro e w1 ⟨rfl,rfl⟩)
  |(go_at_call 38;refine hc.out.mono ?_;rintro e w2 ⟨v',rfl,h1,h2,h3⟩;replace h3:Hid (∀_,_):=h3))
 go_ret
 exact⟨_,rfl,h1,h2,h3.out⟩
theorem zfS(B:Nat)(L:zQ)(t:List Nat)(ow:Own)(w:World)(h:zL B L t ow w)(hl:L.held.length<=1073741824):Calls prog 218 #[.pointer (some ⟨B,0,none⟩)] w λe w'=>
 ∃v',e=.returned v'/\Row w' 78 3 v' L.held.length (L.held.flatMap zh)/\Below w.heap.size w w'/\(∀g,v'.ownBlock=some g->w.heap.size<=g):=by
 have hn:=Jj B L t ow w h;obtain⟨hk,fb,hv,lv,hB,hF,hH,hG, -⟩:=h;have e0:=hB.cell;unfold jQ at e0;have hc:=Xn hv L.held w hH.src hl;replace hn:=hid hn;replace hc:=hid hc;clear hB hk hF hH hG
 go_enter func218,ntmps218
 go_wp2_with (first
  |(go_at_call 41;refine hn.out.mono ?_;rintro e w1 ⟨rfl,rfl⟩)
  |(go_at_call 38;refine hc.out.mono ?_;rintro e w2 ⟨v',rfl,h1,h2,h3⟩;replace h3:Hid (∀_,_):=h3))
 go_ret
 exact⟨_,rfl,h1,h2,h3.out⟩
end
section
open Go Go.RowKit Go.Shelf Go.Extern.Stop Go.Stop Go.Extern
attribute [local go_sem] Oper.semAt_some zB zo
def zmO(x:ZJ):Array Value:=#[.int .u32 x.1,.int .i64 x.2.1,.int .i64 x.2.2]
theorem zhU {l:List ZJ}{k:Nat}{x:ZJ}(h:l[k]?=some x):vo (l.take (k+1))=x:=by
 unfold vo;rw [List.take_add_one,h];simp
theorem zaV(B:Nat)(L:zQ)(t:List Nat)(ow:Own)(w:World)(h:zL B L t ow w)(hl:L.fold.eras.length<=536870912):Calls prog 164 #[.pointer (some ⟨B,0,none⟩)] w λe w'=>e=.returned (Yh (vo L.fold.eras))/\Below w.heap.size w w':=by
 obtain⟨hk,fb,hv,lv,hB,hF, -⟩:=h;have he:=ze1 fb L.fold (t++ [0]) ow;have ah:=hB.cell 0;have ao:=hB.lt;replace ah:w.cell? ⟨B,0,none⟩=some (.pointer (some ⟨fb,0,none⟩)):=ah;have aa:=λW (hW:Below w.heap.size w W)=>(hW.cell (p:=⟨B,0,none⟩) ao).trans ah
 clear hB hk
 generalize L.fold.eras=l at*
 obtain⟨⟨ep,ve,st⟩,hn⟩:∃n,vo l=n:=⟨_,rfl⟩;rw [hn];unfold Yh;replace hn:=hid hn;replace he:=hid he;replace hF:=hid hF;replace aa:=hid aa;obtain⟨N,hN⟩:∃N,N=w.heap.size:=⟨_,rfl⟩
 go_enter func164,ntmps164
 go_wp2_with fail
 refine(he.out _ ((zF.loc fb L.fold _).below hF.out (pbx)) hl).mono ?_;rintro e w1⟨ev,rfl,hR,ae,al⟩;have k2:Blk w1 w.heap.size #[.int .u32 0,.int .i64 0,.int .i64 0] 197:=Blk.call (bkx) ae;have k3:Blk w1 (w.heap.size+1) #[.int .u32 0,.int .i64 0,.int .i64 0] 197:=Blk.call (bkx) ae;have ak:Below w.heap.size w w1:=pbx;have hz:w.heap.size+2<=w1.heap.size:=by have:=ae.size;simp at this;omega
 have ac:∀g,ev.ownBlock=some g->w.heap.size+1<g:=λg hg=>by have:=al g hg;simp at this;omega
 clear ae al he hF aa hN;obtain⟨ea,ec,rfl⟩:=hR.src.shape;replace hR:=hid hR;replace k2:=hid k2;replace k3:=hid k3;replace ac:=hid ac;go_wp2
 go_loopw [12] (λp12 wr=>∃k:Nat,p12=.int .i64 k/\k<=l.length/\Blk wr w.heap.size #[.int .u32 0,.int .i64 0,.int .i64 0] 197/\Blk wr (w.heap.size+1) (zmO (vo (l.take k))) 197/\Below w.heap.size w wr/\w.heap.size+2<=wr.heap.size/\Row wr 197 3 (.slice ea l.length ec) l.length (l.flatMap zX)) (λp12 _=>l.length - (intOf p12).toNat)
 case atStart=>exact⟨0,rfl,Nat.zero_le _,k2.out,k3.out,ak,hz,hR.out⟩
 case round=>
  obtain⟨k,rfl,ap,q2,q3,am,aq,ab⟩:=hrel;clear k2 k3 ak hz hR
  by_cases hlt:k<l.length
  ·obtain⟨⟨af,ag,aj⟩,hx⟩:∃x,l[k]?=some x:=⟨_,N3 hlt⟩
   have ai:=zhU hx
   rcases ab.form with⟨-,h, -⟩|⟨g,cap',h,hcc, -⟩
   ·omega
   cases h
   have aa:∀q,q<3->wr.cell? ⟨g,k*3+q,none⟩=(zX (af,ag,aj))[q]?:=λq hq=>by
    have h1:=Jg l k _ hx q hq;rw [← h1,ab.cellAt _ (by omega)]
   have c0:wr.cell? ⟨g,k*3,none⟩=some (.int .u32 af):=aa 0 (by omega);have c1:wr.cell? ⟨g,k*3+1,none⟩=some (.int .i64 ag):=aa 1 (by omega);have c2:wr.cell? ⟨g,k*3+2,none⟩=some (.int .i64 aj):=aa 2 (by omega);have l3:=q3.lt;have f3:=q3.frozen;have ad:=q3.cell;unfold zmO at ad;have hg:=ac.out g rfl;have ar:=ab.lt (g:=g) rfl;have z0:(0:Int)<=k:=by omega
   have z1:(k:Int)<(l.length:Int):=by omega
   replace ab:=hid ab;replace q2:=hid q2;replace q3:=hid q3;replace ai:=hid ai;clear aa hx;go_wp2
   go_roundw
   case rel=>
    refine⟨k+1,by go_num,by omega,?_,?_,?_,?_,?_⟩
    ·exact Blk.alloc (((q2.out.other (show w.heap.size≠w.heap.size+1 by omega) _).other (show w.heap.size≠w.heap.size+1 by omega) _).other (show w.heap.size≠w.heap.size+1 by omega) _) _
    ·rw [ai.out]
     exact Blk.alloc (((q3.out.set (o:=0) (.int .u32 af)).set (o:=1) (.int .i64 ag)).set (o:=2) (.int .i64 aj)) _
    ·exact zi (zu (zu (zu am (by simp) _) (by simp) _) (by simp) _) _
    ·simp;omega
    refine Row.below (ab.out.kept (λg' hg'=>?_)) (zi (N2 _ _) _)
    cases hg'
    rw [N4 _ _ _ _ (show g≠w.heap.size+1 by omega),N4 _ _ _ _ (show g≠w.heap.size+1 by omega),N4 _ _ _ _ (show g≠w.heap.size+1 by omega)]
   case measure=>simp [intOf];omega
  have an:k=l.length:=by omega
  subst an;rw [List.take_length] at q3;have ad:=q3.cell;have au:=q2.cell;have f2:=q2.frozen;have l2:=q2.lt;unfold zmO at ad;rw [hn.out] at ad;simp only at ad;clear ab;have r1:=(((q2.set (o:=0) (.int .u32 ep)).set (o:=1) (.int .i64 ve)).set (o:=2) (.int .i64 st)).cell;go_wp2;exact bodyPost_ret (v:=.agg #[.int .u32 ep,.int .i64 ve,.int .i64 st]) (by simp [results,Tryz.results164,go_sem,r1]) rfl ⟨rfl,zu (zu (zu am (by simp) _) (by simp) _) (by simp) _⟩
theorem V4(B:Nat)(L:zQ)(t:List Nat)(ow:Own)(w:World)(h:zL B L t ow w)(hl:L.fold.eras.length<=536870912):Calls prog 111 #[.pointer (some ⟨B,0,none⟩)] w λe w'=>e=.returned (Yh (vo L.fold.eras))/\Below w.heap.size w w':=by
 have aa:=zaV B L t ow;have ab:=Jj B L t ow;obtain⟨⟨ep,ve,st⟩,hn⟩:∃n,vo L.fold.eras=n:=⟨_,rfl⟩;rw [hn] at aa⊢;unfold Yh at aa⊢;replace aa:=hid aa;replace ab:=hid ab;replace h:=hid h;replace hn:=hid hn
 go_enter func111,ntmps111
 go_wp2_with fail
 refine(ab.out _ ((zL.loc B L t).below h.out (pbx))).mono ?_;rintro e w1⟨rfl,rfl⟩;go_wp2_with fail
 refine(aa.out _ ((zL.loc B L t).below h.out (pbx)) hl).mono ?_;rintro e w1⟨rfl,ac⟩;have k:Blk w1 w.heap.size #[.int .u32 0,.int .i64 0,.int .i64 0] 197:=Blk.call (bkx) ac;have kc:=k.cell;have kf:=k.frozen;have kl:=k.lt;have ad:Below w.heap.size w w1:=pbx;have r1:=(((k.set (o:=0) (.int .u32 ep)).set (o:=1) (.int .i64 ve)).set (o:=2) (.int .i64 st)).cell;go_wp2;exact bodyPost_ret (v:=.agg #[.int .u32 ep,.int .i64 ve,.int .i64 st]) (by simp [results,Tryz.results111,go_sem,r1]) rfl ⟨rfl,zu (zu (zu ad (by simp) _) (by simp) _) (by simp) _⟩
theorem zjY(B:Nat)(L:zQ)(t:List Nat)(ow:Own)(w:World)(h:zL B L t ow w)(hb:L.blk=false):Calls prog 140 #[.pointer (some ⟨B,0,none⟩)] w λe w'=>e=.returned (.tuple #[.agg #[.int .i64 0,.int .u32 0,.int .i64 0,.slice none 0 0],.bool false])/\Below w.heap.size w w':=by
 have aa:=VD B L t ow;rw [hb] at aa;replace aa:=hid aa;replace h:=hid h;replace hb:=hid hb
 go_enter func140,ntmps140
 go_wp2_with fail
 refine(aa.out _ ((zL.loc B L t).below h.out (pbx))).mono ?_;rintro e w1⟨rfl,rfl⟩;go_wp2;exact bodyPost_ret (v:=.tuple #[.agg #[.int .i64 0,.int .u32 0,.int .i64 0,.slice none 0 0],.bool false]) (by simp [results,Tryz.results140,go_sem]) rfl ⟨rfl,pbx⟩
theorem zhV(B:Nat)(L:zQ)(t:List Nat)(ow:Own)(w:World)(h:zL B L t ow w)(hb:L.blk=true)(hl:L.fold.eras.length<=536870912):Calls prog 140 #[.pointer (some ⟨B,0,none⟩)] w λe w'=>e=.returned (.tuple #[.agg #[.int .i64 3,.int .u32 (vo L.fold.eras).1,.int .i64 0,.slice none 0 0],.bool true])/\Below w.heap.size w w':=by
 have ab:=VD B L t ow;rw [hb] at ab;have aa:=zaV B L t ow;obtain⟨⟨ep,ve,st⟩,hn⟩:∃n,vo L.fold.eras=n:=⟨_,rfl⟩;rw [hn] at aa⊢;unfold Yh at aa;have ae:=zhD ep ve st;replace aa:=hid aa;replace ab:=hid ab;replace h:=hid h;replace hb:=hid hb;replace hn:=hid hn
 go_enter func140,ntmps140
 go_wp2_with fail
 refine(ab.out _ ((zL.loc B L t).below h.out (pbx))).mono ?_;rintro e w1⟨rfl,rfl⟩;go_wp2_with fail
 refine(aa.out _ ((zL.loc B L t).below h.out (pbx)) hl).mono ?_;rintro e w1⟨rfl,ad⟩;have k:Blk w1 w.heap.size #[.int .i64 0,.int .u32 0,.int .i64 0,.slice none 0 0] 241:=Blk.call (bkx) ad;have kc:=k.cell;have kf:=k.frozen;have kl:=k.lt;have ac:Below w.heap.size w w1:=pbx;have r1:=((((k.set (o:=0) (.int .i64 3)).set (o:=1) (.int .u32 ep)).set (o:=2) (.int .i64 0)).set (o:=3) (.slice none 0 0)).cell;go_wp2;exact bodyPost_ret (v:=.tuple #[.agg #[.int .i64 3,.int .u32 ep,.int .i64 0,.slice none 0 0],.bool true]) (by simp [results,Tryz.results140,go_sem,r1]) rfl ⟨rfl,zu (zu (zu (zu ac (by simp) _) (by simp) _) (by simp) _) (by simp) _⟩
end
open Go Go.RowKit Go.Shelf Go.Extern.Stop Go.Stop Go.Extern
attribute [local go_sem] Oper.semAt_some zB zo
theorem zdT {B fb:Nat}{L L':zQ}{t:List Nat}{ow:Own}{w W':World}{hv lv:Value}(hk:known L'.st.1=true)(hB:Blk w B (jQ fb hv lv L) 117)(hF:zF fb L.fold (t++ [0]) ow w)
 (hH:Row w 78 3 hv L.held.length (L.held.flatMap zh)) (hG:Row w 78 3 lv L.log.length (L.log.flatMap zh)) (o1:ow B=t) (o2:∀g,hv.ownBlock=some g->ow g=t++ [1]) (o3:∀g,lv.ownBlock=some g->ow g=t++ [2])
 (hM:Mod (λk=>k=B) w W') (hB':Blk W' B (jQ fb hv lv L') 117) (e1:L'.fold=L.fold) (e2:L'.held=L.held) (e3:L'.log=L.log):zp t ow w (ow.cut w) W'/\zL B L' t (ow.cut w) W':=by
 refine⟨⟨hM.mono (λk _ e=>by subst e;rw [o1];exact Sub.rfl' t),λk hk=>Own.cut_old hk⟩,hk,fb,hv,lv,hB',?_,?_,?_,?_,?_,?_⟩
 ·rw [e1]
  exact zF.loc fb L.fold (t++ [0]) _ _ _ _ hF hM.size (λk hk hs=>⟨Own.cut_old hk,hM.block k hk (λe=>by subst e;rw [o1] at hs;exact zO t 0 hs)⟩)
 ·rw [e2];exact hH.mod hM (λg hg=>hH.ne_blk hB (by decide) hg)
 ·rw [e3];exact hG.mod hM (λg hg=>hG.ne_blk hB (by decide) hg)
 ·rw [Own.cut_old hB.lt,o1]
 ·intro g hg;rw [Own.cut_old (hH.lt hg),o2 g hg]
 intro g hg;rw [Own.cut_old (hG.lt hg),o3 g hg]
theorem zb9(a:Addr)(B:Nat)(L:zQ)(t:List Nat)(ow:Own)(v:Int)(fails:Bool)(w:World)(he:jv w a)(h:zL B L t ow w):
 Calls prog 262 #[.pointer (some ⟨B,0,none⟩),.int .i64 v,.bool fails] w (zb8 B (yg L v fails) t ow w (.tuple #[])):=by
 obtain⟨hk,fb,hv,lv,hB,hF,hH,hG,o1,o2,o3⟩:=h;have hw:=λ(L':zQ)(W':World)(hk':known L'.st.1=true)(hM:Mod (λk=>k=B) w W') (hB':Blk W' B (jQ fb hv lv L') 117) (e1:L'.fold=L.fold) (e2:L'.held=L.held) (e3:L'.log=L.log)=>zdT hk' hB hF hH hG o1 o2 o3 hM hB' e1 e2 e3
 clear hF hH hG o1 o2 o3;have ah:=zdS hk v fails;unfold jQ at hB hw;have e0:=hB.cell;have f0:=hB.frozen;have l0:=hB.lt;obtain⟨fo,⟨sv,sc,sd⟩,bl,ab,lo⟩:=L;simp only at*;replace hw:=hid hw;replace ah:=hid ah;replace hk:=hid hk
 by_cases h1:sv=v
 ·have t1:(sv !=v)=false:=by simp [h1]
  have hm:VX (sv,sc,sd) v fails=(sv,sc,sd):=by unfold VX;rw [if_neg (by simp [h1])]
  have hL:yg ⟨fo,(sv,sc,sd),bl,ab,lo⟩ v fails=⟨fo,(sv,sc,sd),false,ab,lo⟩:=by unfold yg;simp only [hm];simp [h1]
  rw [hL];replace hm:=hid hm;replace hL:=hid hL;replace hB:=hid hB;replace h1:=hid h1
  go_enter func262,ntmps262
  go_wp2;go_end0
  have hq:=hw.out ⟨fo,(sv,sc,sd),false,ab,lo⟩ (w.setCell ⟨B,4,none⟩ (.bool false)) hk.out (Mod.setCell w _ _ rfl) (hB.out.set (o:=4) (.bool false)) rfl rfl rfl;exact⟨rfl,_,hq.1,hq.2⟩
 have t1:(sv !=v)=true:=by simp [h1]
 cases fails
 ·obtain⟨⟨⟨v',c',d'⟩,er⟩,ac⟩:∃x,yf sv sc sd v=x:=⟨_,rfl⟩
  have aa:=λW (hW:Below w.heap.size w W)=>Q1 ac W (he.below hW he.lt)
  by_cases h2:er=0
  ·subst h2
   have af:=Q2 (v:=sv) (c:=sc) (d:=sd) (vto:=v) (by rw [ac]);rw [ac] at af;obtain⟨ag,ae⟩:=af;simp only at ag;subst ag;have hm:VX (sv,sc,sd) v' false=(v',c',d'):=by unfold VX;rw [if_pos ⟨h1,rfl,by rw [ac]⟩,ac]
   have hL:yg ⟨fo,(sv,sc,sd),bl,ab,lo⟩ v' false=⟨fo,(v',c',d'),false,ab,lo⟩:=by unfold yg;simp only [hm];simp
   rw [hL];replace hm:=hid hm;replace hL:=hid hL;replace hB:=hid hB;replace h1:=hid h1;replace ac:=hid ac;replace ae:=hid ae;replace aa:=hid aa
   go_enter func262,ntmps262
   go_wp2_with fail
   refine(aa.out _ (N2 _ _)).mono ?_;rintro e w1⟨rfl,ad⟩;have k1:=hB.out.call ad;have e1:=k1.cell;have f1:=k1.frozen;have l1:=k1.lt;replace k1:=hid k1;clear e0 f0;go_wp2;go_end0
   have hq:=hw.out ⟨fo,(v',c',d'),false,ab,lo⟩ (((((w1.setCell ⟨B,1,none⟩ (.int .i64 v')).setCell ⟨B,2,none⟩ (.int .u32 c')).setCell ⟨B,3,none⟩ (.string (bs d'))).setCell ⟨B,4,none⟩ (.bool false)).alloc (.cells #[.int .i64 v',.int .u32 c',.string (bs d')] 115)) ae.out
    ((((((Mod.of_below (λk=>k=B) ad).thenSet (p:=⟨B,1,none⟩) rfl _).thenSet (p:=⟨B,2,none⟩) rfl _).thenSet (p:=⟨B,3,none⟩) rfl _).thenSet (p:=⟨B,4,none⟩) rfl _).thenAlloc _)
    (Blk.alloc ((((k1.out.set (o:=1) (.int .i64 v')).set (o:=2) (.int .u32 c')).set (o:=3) (.string (bs d'))).set (o:=4) (.bool false)) _) rfl rfl rfl
   exact⟨rfl,_,hq.1,hq.2⟩
  have t2:(er==0)=false:=by simpa using h2
  have hm:VX (sv,sc,sd) v false=(sv,sc,sd):=by unfold VX;rw [if_neg (by rw [ac];simp [h2])]
  have hL:yg ⟨fo,(sv,sc,sd),bl,ab,lo⟩ v false=⟨fo,(sv,sc,sd),true,ab,lo⟩:=by unfold yg;simp only [hm];simp [h1]
  rw [hL];replace hm:=hid hm;replace hL:=hid hL;replace hB:=hid hB;replace h1:=hid h1;replace h2:=hid h2;replace ac:=hid ac;replace aa:=hid aa
  go_enter func262,ntmps262
  go_wp2_with fail
  refine(aa.out _ (N2 _ _)).mono ?_;rintro e w1⟨rfl,ad⟩;have k1:=hB.out.call ad;have e1:=k1.cell;have f1:=k1.frozen;have l1:=k1.lt;replace k1:=hid k1;clear e0 f0;go_wp2;go_end0
  have hq:=hw.out ⟨fo,(sv,sc,sd),true,ab,lo⟩ ((w1.setCell ⟨B,4,none⟩ (.bool true)).alloc (.cells #[.int .i64 v',.int .u32 c',.string (bs d')] 115)) hk.out
   (((Mod.of_below (λk=>k=B) ad).thenSet (p:=⟨B,4,none⟩) rfl _).thenAlloc _)
   (Blk.alloc (k1.out.set (o:=4) (.bool true)) _) rfl rfl rfl
  exact⟨rfl,_,hq.1,hq.2⟩
 have hm:VX (sv,sc,sd) v true=(sv,sc,sd):=by unfold VX;rw [if_neg (by simp)]
 have hL:yg ⟨fo,(sv,sc,sd),bl,ab,lo⟩ v true=⟨fo,(sv,sc,sd),true,ab,lo⟩:=by unfold yg;simp only [hm];simp [h1]
 rw [hL];replace hm:=hid hm;replace hL:=hid hL;replace hB:=hid hB;replace h1:=hid h1
 go_enter func262,ntmps262
 go_wp2;go_end0
 have hq:=hw.out ⟨fo,(sv,sc,sd),true,ab,lo⟩ (w.setCell ⟨B,4,none⟩ (.bool true)) hk.out (Mod.setCell w _ _ rfl) (hB.out.set (o:=4) (.bool true)) rfl rfl rfl;exact⟨rfl,_,hq.1,hq.2⟩
theorem zca(B:Nat)(L:zQ)(t:List Nat)(ow:Own)(mv:Value)(ms:List zx)(w:World)(h:zL B L t ow w)(hm:Src w mv 3 ms.length (ms.flatMap zh))(hl:L.held.length+ms.length<=1073741824):
 Calls prog 263 #[.pointer (some ⟨B,0,none⟩),mv] w (zb8 B (qQ L ms) t ow w (.tuple #[])):=by
 obtain⟨hk,fb,hv,lv,hB,hF,hH,hG,o1,o2,o3⟩:=h;unfold jQ at hB;have e0:=hB.cell;have l0:=hB.lt;obtain⟨ma,mc,rfl⟩:=hm.shape;obtain⟨ha,hn,hc,rfl⟩:=hH.shape;obtain⟨ah,W3,af,ab,ae,ac⟩:=zM zdI hH hm (jA ms) hl 42;have aa:(Value.slice ha hn hc).ownBlock≠some B:=λe=>(hH.ne_blk hB (by decide) e) rfl
 have k3:=hB.kept (ae.block B hB.lt (λe=>aa e.symm));have f3:=k3.frozen;have l3:=k3.lt;have c3:=k3.cell;obtain⟨sa,sm,sc,rfl⟩:=ab.shape;clear hm;replace hB:=hid hB;replace hF:=hid hF;replace hH:=hid hH;replace hG:=hid hG;replace ab:=hid ab;replace k3:=hid k3;replace o2:=hid o2;replace o3:=hid o3;replace ac:=hid ac;replace aa:=hid aa;replace hk:=hid hk
 go_enter func263,ntmps263
 go_wp2_with (at_builtin
              refine zv rfl _ _ _ rfl rfl rfl af ?_)
 go_end0
 have ag:∀g,(Value.slice sa sm sc).ownBlock=some g->((Value.slice ha hn hc).ownBlock=some g∨g=w.heap.size):=λg hg=>by
  have:=ac.out;rw [hg] at this
  rcases this with h|h
  ·exact .inl h.symm
  right;simpa using h
 have ad:∀k,k<w.heap.size->k≠B->(Value.slice ha hn hc).ownBlock≠some k->(W3.setCell ⟨B,5,none⟩ (.slice sa sm sc)).heap[k]?=w.heap[k]?:=λk hk1 h1 h2=>
  (N4 _ _ _ _ h1).trans (ae.block k hk1 (λe=>h2 e.symm))
 refine⟨rfl,ow.ext w.heap.size (λk=>(Value.slice sa sm sc).ownBlock=some k) (t++ [1]),⟨?_,λk hk=>Own.ext_old hk⟩,hk.out,fb,.slice sa sm sc,lv,k3.out.set (o:=5) _,?_,?_,?_,?_,?_,?_⟩
 ·exact(Mod.grown (X:=λk=>Sub t (ow k)) ae (λk h=>by rw [o2.out k h];exact Sub.child t 1)).thenSet (p:=⟨B,5,none⟩) (by simp only [o1];exact Sub.rfl' t) _
 ·refine zF.loc fb L.fold (t++ [0]) _ _ _ _ hF.out (by have:=ae.size;simpa using this) (λk hk1 hs=>⟨Own.ext_old hk1,ad k hk1 (λe=>by subst e;rw [o1] at hs;exact zO t 0 hs) (λe=>?_)⟩)
  rw [o2.out k e] at hs;exact(zR t (show(0:Nat)≠1 by omega)).1 hs
 ·unfold qQ
  simp only [N1,U5];refine ab.out.kept (λg hg=>N4 _ _ _ _ (λe=>?_));have e':g=B:=e;subst e'
  rcases ag g hg with h|h
  ·exact aa.out h
  omega
 ·refine hG.out.kept (λg hg=>ad g (hG.out.lt hg) (λe=>?_) (λe=>?_))
  ·subst e;have:=o3.out g hg;rw [o1] at this;simp at this
  have h1:=o3.out g hg
  rw [o2.out g e] at h1;simp at h1
 ·rw [Own.ext_old l0,o1]
 ·intro g hg
  rcases ag g hg with h|h
  ·rw [Own.ext_old (hH.out.lt h),o2.out g h]
  rw [Own.ext_new (by omega) hg]
 intro g hg;rw [Own.ext_old (hG.out.lt hg),o3.out g hg]
