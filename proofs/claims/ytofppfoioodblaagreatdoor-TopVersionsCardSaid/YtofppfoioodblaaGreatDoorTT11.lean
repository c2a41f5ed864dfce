/- PARTS OF THE PROOF. -/
import Derived.Test.YtofppfoioodblaaGreatDoorTT03
import Derived.Test.YtofppfoioodblaaGreatDoorTT09
import Derived.Test.YtofppfoioodblaaGreatDoorTT10
set_option maxRecDepth 8000
set_option maxHeartbeats 4000000
open Go.Proofs.Tryz
namespace Go.Proofs.YtofppfoioodblaaGreatDoor
section
open Go Go.RowKit Go.Shelf Go.Extern.Stop Go.Stop Go.Extern
attribute [local go_sem] Oper.semAt_some zv zm
abbrev StD:=Int×Nat×List UInt8
structure zR where
 fold:yJ
 st:StD
 blk:Bool
 held:List zy
 log:List zy
def Y7(s:StD)(v:Int)(fails:Bool):StD:=if s.1≠v/\fails=false/\(j9 s.1 s.2.1 s.2.2 v).2=0 then(j9 s.1 s.2.1 s.2.2 v).1 else s
def ya(L:zR)(v:Int)(fails:Bool):zR:={L with st:=Y7 L.st v fails,blk:=decide ((Y7 L.st v fails).1≠v)}
def qo(L:zR)(l:List zy):zR:={L with held:=L.held++l}
def yw(L:zR):zR×List zy:=if L.blk then(L,[])else({L with held:=[],log:=L.log++L.held},L.held)
def zh8(L:zR)(R:yJ×List zy×Bool×Int)(fails:Bool):zR:=if R.2.2.1 then ya {L with fold:=R.1} (vk R.1.eras).2.1 fails else {L with fold:=R.1}
def j6(L:zR)(e:jy)(fails:Bool):zR×List zy×Int:=
 if(jX L.fold e).2.2.2≠0 then({L with fold:=(jX L.fold e).1},[],(jX L.fold e).2.2.2)
 else((yw (qo (zh8 L (jX L.fold e) fails) (jX L.fold e).2.1)).1,(yw (qo (zh8 L (jX L.fold e) fails) (jX L.fold e).2.1)).2,0)
def zh9(v:Int)(s:StD):zR:={fold:=q8 v,st:=s,blk:=false,held:=[],log:=[] }
theorem X6 {v:Int}{c:Nat}{d:List UInt8}{vto:Int}(h:(j9 v c d vto).2=0):(j9 v c d vto).1.1=vto/\known vto=true:=by
 unfold j9 at h⊢
 split at h
 ·rename_i h0;exact absurd h h0
 ·rename_i h0
  have h1:=VD (Decidable.not_not.1 h0);have hk:known vto=true:=by simp [known];omega
  rw [if_neg h0]
  split at h
  ·simp at h
  ·rename_i h2
   rw [if_neg h2]
   split at h
   ·exact⟨rfl,hk⟩
   ·simp at h
theorem zcx {s:StD}(h:known s.1=true)(v:Int)(fails:Bool):known (Y7 s v fails).1=true:=by
 unfold Y7
 split
 ·rename_i hh
  have:=X6 hh.2.2;rw [this.1];exact this.2
 ·exact h
def jS(fb:Nat)(hv lv:Value)(L:zR):Array Value:=#[.pointer (some ⟨fb,0,none⟩),.int .i64 L.st.1,.int .u32 L.st.2.1,.string (bs L.st.2.2),.bool L.blk,hv,lv]
def zI(B:Nat)(L:zR)(t:List Nat)(ow:Own)(W:World):Prop:=
 known L.st.1=true/\∃fb hv lv,Blk W B (jS fb hv lv L) 117/\zH fb L.fold (t++ [0]) ow W/\Row W 78 3 hv L.held.length (L.held.flatMap zh)/\Row W 78 3 lv L.log.length (L.log.flatMap zh)/\
  ow B=t/\(∀g,hv.ownBlock=some g->ow g=t++ [1])/\∀g,lv.ownBlock=some g->ow g=t++ [2]
theorem zI.loc(B:Nat)(L:zR)(t:List Nat):yK t (zI B L t):=by
 rintro ow ow' W W'⟨hk0,fb,hv,lv,hB,hF,hH,hG,o1,o2,o3⟩ hs hk;have kB:=hk B hB.lt (by rw [o1];exact Sub.rfl' t);have kH:∀g,hv.ownBlock=some g->ow' g=ow g/\W'.heap[g]?=W.heap[g]?:=λg hg=>hk g (hH.lt hg) (by rw [o2 g hg];exact Sub.child t 1)
 have kG:∀g,lv.ownBlock=some g->ow' g=ow g/\W'.heap[g]?=W.heap[g]?:=λg hg=>hk g (hG.lt hg) (by rw [o3 g hg];exact Sub.child t 2)
 refine⟨hk0,fb,hv,lv,hB.kept kB.2,?_,hH.kept (λg hg=>(kH g hg).2),hG.kept (λg hg=>(kG g hg).2),kB.1.trans o1,λg hg=>(kH g hg).1.trans (o2 g hg),λg hg=>(kG g hg).1.trans (o3 g hg)⟩;exact(zH.loc fb L.fold (t++ [0])) ow ow' W W' hF hs (λk hk1 hk2=>hk k hk1 ((Sub.child t 0).trans hk2))
def zaV(B:Nat)(L:zR)(t:List Nat)(ow:Own)(w:World)(v:Value)(e:Ending)(w':World):Prop:=
 e=.returned v/\∃ow',zq t ow w ow' w'/\zI B L t ow' w'
theorem VE(a:Addr)(w:World):(binOp .eql 54 (.pointer (some a)) (.pointer none)).run prog w=.ok (.bool false) w:=by kernel_rfl
theorem zdO {v:Int}(h:known v=true):v≠0:=by
 simp [known] at h;omega
theorem Zt(B:Nat)(L:zR)(t:List Nat)(ow:Own)(w:World)(h:zI B L t ow w):Calls prog 41 #[.pointer (some ⟨B,0,none⟩)] w λe w'=>e=.returned (.bool false)/\w'=w:=by
 obtain⟨hk,fb,hv,lv,hB, -⟩:=h;have h0:=VE ⟨B,0,none⟩ w;have h1:(L.st.1==0)=false:=by simpa using zdO hk
 have h2:L.st.1≠0:=zdO hk;have e0:=hB.cell;unfold jS at e0;clear hB hk
 go_enter func41,ntmps41
 go_wp2;go_ret
 exact⟨rfl,rfl⟩
theorem YN(B:Nat)(L:zR)(t:List Nat)(ow:Own)(w:World)(h:zI B L t ow w):Calls prog 184 #[.pointer (some ⟨B,0,none⟩)] w λe w'=>e=.returned (.bool L.blk)/\w'=w:=by
 have hn:=Zt B L t ow w h;obtain⟨hk,fb,hv,lv,hB, -⟩:=h;have e0:=hB.cell;unfold jS at e0;clear hB hk;replace hn:=hid hn
 go_enter func184,ntmps184
 go_wp2_with (go_at_call 41;refine hn.out.mono ?_;rintro e w1 ⟨rfl,rfl⟩)
 go_ret
 exact⟨rfl,rfl⟩
theorem QT(B:Nat)(L:zR)(t:List Nat)(ow:Own)(w:World)(h:zI B L t ow w)(hl:L.log.length<=1073741824):Calls prog 22 #[.pointer (some ⟨B,0,none⟩)] w λe w'=>
 ∃v',e=.returned v'/\Row w' 78 3 v' L.log.length (L.log.flatMap zh)/\Below w.heap.size w w'/\(∀g,v'.ownBlock=some g->w.heap.size<=g):=by
 have hn:=Zt B L t ow w h;obtain⟨hk,fb,hv,lv,hB,hF,hH,hG, -⟩:=h;have e0:=hB.cell;unfold jS at e0;have hc:=Vx lv L.log w hG.src hl;replace hn:=hid hn;replace hc:=hid hc;clear hB hk hF hH hG
 go_enter func22,ntmps22
 go_wp2_with (first
  |(go_at_call 41;refine hn.out.mono ?_;rintro e w1 ⟨rfl,rfl⟩)
  |(go_at_call 38;refine hc.out.mono ?_;rintro e w2 ⟨v',rfl,h1,h2,h3⟩;replace h3:Hid (∀_,_):=h3))
 go_ret
 exact⟨_,rfl,h1,h2,h3.out⟩
theorem zeK(B:Nat)(L:zR)(t:List Nat)(ow:Own)(w:World)(h:zI B L t ow w)(hl:L.held.length<=1073741824):Calls prog 218 #[.pointer (some ⟨B,0,none⟩)] w λe w'=>
 ∃v',e=.returned v'/\Row w' 78 3 v' L.held.length (L.held.flatMap zh)/\Below w.heap.size w w'/\(∀g,v'.ownBlock=some g->w.heap.size<=g):=by
 have hn:=Zt B L t ow w h;obtain⟨hk,fb,hv,lv,hB,hF,hH,hG, -⟩:=h;have e0:=hB.cell;unfold jS at e0;have hc:=Vx hv L.held w hH.src hl;replace hn:=hid hn;replace hc:=hid hc;clear hB hk hF hH hG
 go_enter func218,ntmps218
 go_wp2_with (first
  |(go_at_call 41;refine hn.out.mono ?_;rintro e w1 ⟨rfl,rfl⟩)
  |(go_at_call 38;refine hc.out.mono ?_;rintro e w2 ⟨v',rfl,h1,h2,h3⟩;replace h3:Hid (∀_,_):=h3))
 go_ret
 exact⟨_,rfl,h1,h2,h3.out⟩
end
section
open Go Go.RowKit Go.Shelf Go.Extern.Stop Go.Stop Go.Extern
attribute [local go_sem] Oper.semAt_some zv zm
def zlb(x:qZ):Array Value:=#[.int .u32 x.1,.int .i64 x.2.1,.int .i64 x.2.2]
theorem zgI {l:List qZ}{k:Nat}{x:qZ}(h:l[k]?=some x):vk (l.take (k+1))=x:=by
 unfold vk;rw [List.take_add_one,h];simp
theorem QU(B:Nat)(L:zR)(t:List Nat)(ow:Own)(w:World)(h:zI B L t ow w)(hl:L.fold.eras.length<=536870912):Calls prog 164 #[.pointer (some ⟨B,0,none⟩)] w λe w'=>e=.returned (Js (vk L.fold.eras))/\Below w.heap.size w w':=by
 obtain⟨hk,fb,hv,lv,hB,hF, -⟩:=h;have he:=zdJ fb L.fold (t++ [0]) ow;have hb0:=hB.cell 0;have hBl:=hB.lt;replace hb0:w.cell? ⟨B,0,none⟩=some (.pointer (some ⟨fb,0,none⟩)):=hb0;have hcell:=λW (hW:Below w.heap.size w W)=>(hW.cell (p:=⟨B,0,none⟩) hBl).trans hb0
 clear hB hk
 generalize L.fold.eras=l at*
 obtain⟨⟨ep,ve,st⟩,hn⟩:∃n,vk l=n:=⟨_,rfl⟩;rw [hn];unfold Js;replace hn:=hid hn;replace he:=hid he;replace hF:=hid hF;replace hcell:=hid hcell;obtain⟨N,hN⟩:∃N,N=w.heap.size:=⟨_,rfl⟩
 go_enter func164,ntmps164
 go_wp2_with fail
 refine(he.out _ ((zH.loc fb L.fold _).below hF.out (pbx)) hl).mono ?_;rintro e w1⟨ev,rfl,hR,hb1,hfr⟩;have k2:Blk w1 w.heap.size #[.int .u32 0,.int .i64 0,.int .i64 0] 197:=Blk.call (bkx) hb1;have k3:Blk w1 (w.heap.size+1) #[.int .u32 0,.int .i64 0,.int .i64 0] 197:=Blk.call (bkx) hb1;have hbw:Below w.heap.size w w1:=pbx;have hz:w.heap.size+2<=w1.heap.size:=by have:=hb1.size;simp at this;omega
 have hfr2:∀g,ev.ownBlock=some g->w.heap.size+1<g:=λg hg=>by have:=hfr g hg;simp at this;omega
 clear hb1 hfr he hF hcell hN;obtain⟨ea,ec,rfl⟩:=hR.src.shape;replace hR:=hid hR;replace k2:=hid k2;replace k3:=hid k3;replace hfr2:=hid hfr2;go_wp2
 go_loopw [12] (λp12 wr=>∃k:Nat,p12=.int .i64 k/\k<=l.length/\Blk wr w.heap.size #[.int .u32 0,.int .i64 0,.int .i64 0] 197/\Blk wr (w.heap.size+1) (zlb (vk (l.take k))) 197/\Below w.heap.size w wr/\w.heap.size+2<=wr.heap.size/\Row wr 197 3 (.slice ea l.length ec) l.length (l.flatMap jd)) (λp12 _=>l.length - (intOf p12).toNat)
 case atStart=>exact⟨0,rfl,Nat.zero_le _,k2.out,k3.out,hbw,hz,hR.out⟩
 case round=>
  obtain⟨k,rfl,hkl,q2,q3,hbr,hzr,hRr⟩:=hrel;clear k2 k3 hbw hz hR
  by_cases hlt:k<l.length
  ·obtain⟨⟨ep',ve',st'⟩,hx⟩:∃x,l[k]?=some x:=⟨_,N3 hlt⟩
   have htk:=zgI hx
   rcases hRr.form with⟨-,h, -⟩|⟨g,cap',h,hcc, -⟩
   ·omega
   cases h
   have hcell:∀q,q<3->wr.cell? ⟨g,k*3+q,none⟩=(jd (ep',ve',st'))[q]?:=λq hq=>by
    have h1:=Zs l k _ hx q hq;rw [← h1,hRr.cellAt _ (by omega)]
   have c0:wr.cell? ⟨g,k*3,none⟩=some (.int .u32 ep'):=hcell 0 (by omega);have c1:wr.cell? ⟨g,k*3+1,none⟩=some (.int .i64 ve'):=hcell 1 (by omega);have c2:wr.cell? ⟨g,k*3+2,none⟩=some (.int .i64 st'):=hcell 2 (by omega);have l3:=q3.lt;have f3:=q3.frozen;have q3c:=q3.cell;unfold zlb at q3c;have hg:=hfr2.out g rfl;have hgl:=hRr.lt (g:=g) rfl;have z0:(0:Int)<=k:=by omega
   have z1:(k:Int)<(l.length:Int):=by omega
   replace hRr:=hid hRr;replace q2:=hid q2;replace q3:=hid q3;replace htk:=hid htk;clear hcell hx;go_wp2
   go_roundw
   case rel=>
    refine⟨k+1,by go_num,by omega,?_,?_,?_,?_,?_⟩
    ·exact Blk.alloc (((q2.out.other (show w.heap.size≠w.heap.size+1 by omega) _).other (show w.heap.size≠w.heap.size+1 by omega) _).other (show w.heap.size≠w.heap.size+1 by omega) _) _
    ·rw [htk.out]
     exact Blk.alloc (((q3.out.set (o:=0) (.int .u32 ep')).set (o:=1) (.int .i64 ve')).set (o:=2) (.int .i64 st')) _
    ·exact zi (zn (zn (zn hbr (by simp) _) (by simp) _) (by simp) _) _
    ·simp;omega
    ·refine Row.below (hRr.out.kept (λg' hg'=>?_)) (zi (N2 _ _) _)
     cases hg'
     rw [N4 _ _ _ _ (show g≠w.heap.size+1 by omega),N4 _ _ _ _ (show g≠w.heap.size+1 by omega),N4 _ _ _ _ (show g≠w.heap.size+1 by omega)]
   case measure=>simp [intOf];omega
  ·have hkk:k=l.length:=by omega
   subst hkk;rw [List.take_length] at q3;have q3c:=q3.cell;have q2c:=q2.cell;have f2:=q2.frozen;have l2:=q2.lt;unfold zlb at q3c;rw [hn.out] at q3c;simp only at q3c;clear hRr;have r1:=(((q2.set (o:=0) (.int .u32 ep)).set (o:=1) (.int .i64 ve)).set (o:=2) (.int .i64 st)).cell;go_wp2;exact bodyPost_ret (v:=.agg #[.int .u32 ep,.int .i64 ve,.int .i64 st]) (by simp [results,Tryz.results164,go_sem,r1]) rfl ⟨rfl,zn (zn (zn hbr (by simp) _) (by simp) _) (by simp) _⟩
theorem Vh(B:Nat)(L:zR)(t:List Nat)(ow:Own)(w:World)(h:zI B L t ow w)(hl:L.fold.eras.length<=536870912):Calls prog 111 #[.pointer (some ⟨B,0,none⟩)] w λe w'=>e=.returned (Js (vk L.fold.eras))/\Below w.heap.size w w':=by
 have hnow:=QU B L t ow;have hnil:=Zt B L t ow;obtain⟨⟨ep,ve,st⟩,hn⟩:∃n,vk L.fold.eras=n:=⟨_,rfl⟩;rw [hn] at hnow⊢;unfold Js at hnow⊢;replace hnow:=hid hnow;replace hnil:=hid hnil;replace h:=hid h;replace hn:=hid hn
 go_enter func111,ntmps111
 go_wp2_with fail
 refine(hnil.out _ ((zI.loc B L t).below h.out (pbx))).mono ?_;rintro e w1⟨rfl,rfl⟩;go_wp2_with fail
 refine(hnow.out _ ((zI.loc B L t).below h.out (pbx)) hl).mono ?_;rintro e w1⟨rfl,hb1⟩;have k:Blk w1 w.heap.size #[.int .u32 0,.int .i64 0,.int .i64 0] 197:=Blk.call (bkx) hb1;have kc:=k.cell;have kf:=k.frozen;have kl:=k.lt;have hbw:Below w.heap.size w w1:=pbx;have r1:=(((k.set (o:=0) (.int .u32 ep)).set (o:=1) (.int .i64 ve)).set (o:=2) (.int .i64 st)).cell;go_wp2;exact bodyPost_ret (v:=.agg #[.int .u32 ep,.int .i64 ve,.int .i64 st]) (by simp [results,Tryz.results111,go_sem,r1]) rfl ⟨rfl,zn (zn (zn hbw (by simp) _) (by simp) _) (by simp) _⟩
theorem ziF(B:Nat)(L:zR)(t:List Nat)(ow:Own)(w:World)(h:zI B L t ow w)(hb:L.blk=false):Calls prog 140 #[.pointer (some ⟨B,0,none⟩)] w λe w'=>e=.returned (.tuple #[.agg #[.int .i64 0,.int .u32 0,.int .i64 0,.slice none 0 0],.bool false])/\Below w.heap.size w w':=by
 have hblk:=YN B L t ow;rw [hb] at hblk;replace hblk:=hid hblk;replace h:=hid h;replace hb:=hid hb
 go_enter func140,ntmps140
 go_wp2_with fail
 refine(hblk.out _ ((zI.loc B L t).below h.out (pbx))).mono ?_;rintro e w1⟨rfl,rfl⟩;go_wp2;exact bodyPost_ret (v:=.tuple #[.agg #[.int .i64 0,.int .u32 0,.int .i64 0,.slice none 0 0],.bool false]) (by simp [results,Tryz.results140,go_sem]) rfl ⟨rfl,pbx⟩
theorem zgJ(B:Nat)(L:zR)(t:List Nat)(ow:Own)(w:World)(h:zI B L t ow w)(hb:L.blk=true)(hl:L.fold.eras.length<=536870912):Calls prog 140 #[.pointer (some ⟨B,0,none⟩)] w λe w'=>e=.returned (.tuple #[.agg #[.int .i64 3,.int .u32 (vk L.fold.eras).1,.int .i64 0,.slice none 0 0],.bool true])/\Below w.heap.size w w':=by
 have hblk:=YN B L t ow;rw [hb] at hblk;have hnow:=QU B L t ow;obtain⟨⟨ep,ve,st⟩,hn⟩:∃n,vk L.fold.eras=n:=⟨_,rfl⟩;rw [hn] at hnow⊢;unfold Js at hnow;have hf0:=zgr ep ve st;replace hnow:=hid hnow;replace hblk:=hid hblk;replace h:=hid h;replace hb:=hid hb;replace hn:=hid hn
 go_enter func140,ntmps140
 go_wp2_with fail
 refine(hblk.out _ ((zI.loc B L t).below h.out (pbx))).mono ?_;rintro e w1⟨rfl,rfl⟩;go_wp2_with fail
 refine(hnow.out _ ((zI.loc B L t).below h.out (pbx)) hl).mono ?_;rintro e w1⟨rfl,hb1⟩;have k:Blk w1 w.heap.size #[.int .i64 0,.int .u32 0,.int .i64 0,.slice none 0 0] 241:=Blk.call (bkx) hb1;have kc:=k.cell;have kf:=k.frozen;have kl:=k.lt;have hbw:Below w.heap.size w w1:=pbx;have r1:=((((k.set (o:=0) (.int .i64 3)).set (o:=1) (.int .u32 ep)).set (o:=2) (.int .i64 0)).set (o:=3) (.slice none 0 0)).cell;go_wp2;exact bodyPost_ret (v:=.tuple #[.agg #[.int .i64 3,.int .u32 ep,.int .i64 0,.slice none 0 0],.bool true]) (by simp [results,Tryz.results140,go_sem,r1]) rfl ⟨rfl,zn (zn (zn (zn hbw (by simp) _) (by simp) _) (by simp) _) (by simp) _⟩
end
section
open Go Go.RowKit Go.Shelf Go.Extern.Stop Go.Stop Go.Extern
attribute [local go_sem] Oper.semAt_some zv zm
theorem zcy {B fb:Nat}{L L':zR}{t:List Nat}{ow:Own}{w W':World}{hv lv:Value}(hk:known L'.st.1=true)(hB:Blk w B (jS fb hv lv L) 117)(hF:zH fb L.fold (t++ [0]) ow w)
 (hH:Row w 78 3 hv L.held.length (L.held.flatMap zh)) (hG:Row w 78 3 lv L.log.length (L.log.flatMap zh)) (o1:ow B=t) (o2:∀g,hv.ownBlock=some g->ow g=t++ [1]) (o3:∀g,lv.ownBlock=some g->ow g=t++ [2])
 (hM:Mod (λk=>k=B) w W') (hB':Blk W' B (jS fb hv lv L') 117) (e1:L'.fold=L.fold) (e2:L'.held=L.held) (e3:L'.log=L.log):zq t ow w (ow.cut w) W'/\zI B L' t (ow.cut w) W':=by
 refine⟨⟨hM.mono (λk _ e=>by subst e;rw [o1];exact Sub.rfl' t),λk hk=>Own.cut_old hk⟩,hk,fb,hv,lv,hB',?_,?_,?_,?_,?_,?_⟩
 ·rw [e1]
  exact zH.loc fb L.fold (t++ [0]) _ _ _ _ hF hM.size (λk hk hs=>⟨Own.cut_old hk,hM.block k hk (λe=>by subst e;rw [o1] at hs;exact zQ t 0 hs)⟩)
 ·rw [e2];exact hH.mod hM (λg hg=>hH.ne_blk hB (by decide) hg)
 ·rw [e3];exact hG.mod hM (λg hg=>hG.ne_blk hB (by decide) hg)
 ·rw [Own.cut_old hB.lt,o1]
 ·intro g hg;rw [Own.cut_old (hH.lt hg),o2 g hg]
 ·intro g hg;rw [Own.cut_old (hG.lt hg),o3 g hg]
theorem zaW(a:Addr)(B:Nat)(L:zR)(t:List Nat)(ow:Own)(v:Int)(fails:Bool)(w:World)(he:jE w a)(h:zI B L t ow w):
 Calls prog 262 #[.pointer (some ⟨B,0,none⟩),.int .i64 v,.bool fails] w (zaV B (ya L v fails) t ow w (.tuple #[])):=by
 obtain⟨hk,fb,hv,lv,hB,hF,hH,hG,o1,o2,o3⟩:=h;have hw:=λ(L':zR)(W':World)(hk':known L'.st.1=true)(hM:Mod (λk=>k=B) w W') (hB':Blk W' B (jS fb hv lv L') 117) (e1:L'.fold=L.fold) (e2:L'.held=L.held) (e3:L'.log=L.log)=>zcy hk' hB hF hH hG o1 o2 o3 hM hB' e1 e2 e3
 clear hF hH hG o1 o2 o3;have hkn:=zcx hk v fails;unfold jS at hB hw;have e0:=hB.cell;have f0:=hB.frozen;have l0:=hB.lt;obtain⟨fo,⟨sv,sc,sd⟩,bl,he',lo⟩:=L;simp only at*;replace hw:=hid hw;replace hkn:=hid hkn;replace hk:=hid hk
 by_cases h1:sv=v
 ·have t1:(sv !=v)=false:=by simp [h1]
  have hm:Y7 (sv,sc,sd) v fails=(sv,sc,sd):=by unfold Y7;rw [if_neg (by simp [h1])]
  have hL:ya ⟨fo,(sv,sc,sd),bl,he',lo⟩ v fails=⟨fo,(sv,sc,sd),false,he',lo⟩:=by unfold ya;simp only [hm];simp [h1]
  rw [hL];replace hm:=hid hm;replace hL:=hid hL;replace hB:=hid hB;replace h1:=hid h1
  go_enter func262,ntmps262
  go_wp2;go_end0
  have hq:=hw.out ⟨fo,(sv,sc,sd),false,he',lo⟩ (w.setCell ⟨B,4,none⟩ (.bool false)) hk.out (Mod.setCell w _ _ rfl) (hB.out.set (o:=4) (.bool false)) rfl rfl rfl;exact⟨rfl,_,hq.1,hq.2⟩
 ·have t1:(sv !=v)=true:=by simp [h1]
  cases fails
  ·obtain⟨⟨⟨v',c',d'⟩,er⟩,hmg⟩:∃x,j9 sv sc sd v=x:=⟨_,rfl⟩
   have hcall:=λW (hW:Below w.heap.size w W)=>X5 hmg W (he.below hW he.lt)
   by_cases h2:er=0
   ·subst h2
    have hto:=X6 (v:=sv) (c:=sc) (d:=sd) (vto:=v) (by rw [hmg]);rw [hmg] at hto;obtain⟨hv',hkv⟩:=hto;simp only at hv';subst hv';have hm:Y7 (sv,sc,sd) v' false=(v',c',d'):=by unfold Y7;rw [if_pos ⟨h1,rfl,by rw [hmg]⟩,hmg]
    have hL:ya ⟨fo,(sv,sc,sd),bl,he',lo⟩ v' false=⟨fo,(v',c',d'),false,he',lo⟩:=by unfold ya;simp only [hm];simp
    rw [hL];replace hm:=hid hm;replace hL:=hid hL;replace hB:=hid hB;replace h1:=hid h1;replace hmg:=hid hmg;replace hkv:=hid hkv;replace hcall:=hid hcall
    go_enter func262,ntmps262
    go_wp2_with fail
    refine(hcall.out _ (N2 _ _)).mono ?_;rintro e w1⟨rfl,hb1⟩;have k1:=hB.out.call hb1;have e1:=k1.cell;have f1:=k1.frozen;have l1:=k1.lt;replace k1:=hid k1;clear e0 f0;go_wp2;go_end0
    have hq:=hw.out ⟨fo,(v',c',d'),false,he',lo⟩ (((((w1.setCell ⟨B,1,none⟩ (.int .i64 v')).setCell ⟨B,2,none⟩ (.int .u32 c')).setCell ⟨B,3,none⟩ (.string (bs d'))).setCell ⟨B,4,none⟩ (.bool false)).alloc (.cells #[.int .i64 v',.int .u32 c',.string (bs d')] 115)) hkv.out
     ((((((Mod.of_below (λk=>k=B) hb1).thenSet (p:=⟨B,1,none⟩) rfl _).thenSet (p:=⟨B,2,none⟩) rfl _).thenSet (p:=⟨B,3,none⟩) rfl _).thenSet (p:=⟨B,4,none⟩) rfl _).thenAlloc _)
     (Blk.alloc ((((k1.out.set (o:=1) (.int .i64 v')).set (o:=2) (.int .u32 c')).set (o:=3) (.string (bs d'))).set (o:=4) (.bool false)) _) rfl rfl rfl
    exact⟨rfl,_,hq.1,hq.2⟩
   ·have t2:(er==0)=false:=by simpa using h2
    have hm:Y7 (sv,sc,sd) v false=(sv,sc,sd):=by unfold Y7;rw [if_neg (by rw [hmg];simp [h2])]
    have hL:ya ⟨fo,(sv,sc,sd),bl,he',lo⟩ v false=⟨fo,(sv,sc,sd),true,he',lo⟩:=by unfold ya;simp only [hm];simp [h1]
    rw [hL];replace hm:=hid hm;replace hL:=hid hL;replace hB:=hid hB;replace h1:=hid h1;replace h2:=hid h2;replace hmg:=hid hmg;replace hcall:=hid hcall
    go_enter func262,ntmps262
    go_wp2_with fail
    refine(hcall.out _ (N2 _ _)).mono ?_;rintro e w1⟨rfl,hb1⟩;have k1:=hB.out.call hb1;have e1:=k1.cell;have f1:=k1.frozen;have l1:=k1.lt;replace k1:=hid k1;clear e0 f0;go_wp2;go_end0
    have hq:=hw.out ⟨fo,(sv,sc,sd),true,he',lo⟩ ((w1.setCell ⟨B,4,none⟩ (.bool true)).alloc (.cells #[.int .i64 v',.int .u32 c',.string (bs d')] 115)) hk.out
     (((Mod.of_below (λk=>k=B) hb1).thenSet (p:=⟨B,4,none⟩) rfl _).thenAlloc _)
     (Blk.alloc (k1.out.set (o:=4) (.bool true)) _) rfl rfl rfl
    exact⟨rfl,_,hq.1,hq.2⟩
  ·have hm:Y7 (sv,sc,sd) v true=(sv,sc,sd):=by unfold Y7;rw [if_neg (by simp)]
   have hL:ya ⟨fo,(sv,sc,sd),bl,he',lo⟩ v true=⟨fo,(sv,sc,sd),true,he',lo⟩:=by unfold ya;simp only [hm];simp [h1]
   rw [hL];replace hm:=hid hm;replace hL:=hid hL;replace hB:=hid hB;replace h1:=hid h1
   go_enter func262,ntmps262
   go_wp2;go_end0
   have hq:=hw.out ⟨fo,(sv,sc,sd),true,he',lo⟩ (w.setCell ⟨B,4,none⟩ (.bool true)) hk.out (Mod.setCell w _ _ rfl) (hB.out.set (o:=4) (.bool true)) rfl rfl rfl;exact⟨rfl,_,hq.1,hq.2⟩
theorem zaX(B:Nat)(L:zR)(t:List Nat)(ow:Own)(mv:Value)(ms:List zy)(w:World)(h:zI B L t ow w)(hm:Src w mv 3 ms.length (ms.flatMap zh))(hl:L.held.length+ms.length<=1073741824):
 Calls prog 263 #[.pointer (some ⟨B,0,none⟩),mv] w (zaV B (qo L ms) t ow w (.tuple #[])):=by
 obtain⟨hk,fb,hv,lv,hB,hF,hH,hG,o1,o2,o3⟩:=h;unfold jS at hB;have e0:=hB.cell;have l0:=hB.lt;obtain⟨ma,mc,rfl⟩:=hm.shape;obtain⟨ha,hn,hc,rfl⟩:=hH.shape;obtain⟨hv',W3,hrun,hrow,hgr,hown⟩:=zT zcc hH hm (jq ms) hl 42;have hneB:(Value.slice ha hn hc).ownBlock≠some B:=λe=>(hH.ne_blk hB (by decide) e) rfl
 have k3:=hB.kept (hgr.block B hB.lt (λe=>hneB e.symm));have f3:=k3.frozen;have l3:=k3.lt;have c3:=k3.cell;obtain⟨sa,sm,sc,rfl⟩:=hrow.shape;clear hm;replace hB:=hid hB;replace hF:=hid hF;replace hH:=hid hH;replace hG:=hid hG;replace hrow:=hid hrow;replace k3:=hid k3;replace o2:=hid o2;replace o3:=hid o3;replace hown:=hid hown;replace hneB:=hid hneB;replace hk:=hid hk
 go_enter func263,ntmps263
 go_wp2_with (at_builtin
              refine zw rfl _ _ _ rfl rfl rfl hrun ?_)
 go_end0
 have hg5:∀g,(Value.slice sa sm sc).ownBlock=some g->((Value.slice ha hn hc).ownBlock=some g∨g=w.heap.size):=λg hg=>by
  have:=hown.out;rw [hg] at this
  rcases this with h|h
  ·exact .inl h.symm
  ·right;simpa using h
 have hoth:∀k,k<w.heap.size->k≠B->(Value.slice ha hn hc).ownBlock≠some k->(W3.setCell ⟨B,5,none⟩ (.slice sa sm sc)).heap[k]?=w.heap[k]?:=λk hk1 h1 h2=>
  (N4 _ _ _ _ h1).trans (hgr.block k hk1 (λe=>h2 e.symm))
 refine⟨rfl,ow.ext w.heap.size (λk=>(Value.slice sa sm sc).ownBlock=some k) (t++ [1]),⟨?_,λk hk=>Own.ext_old hk⟩,hk.out,fb,.slice sa sm sc,lv,k3.out.set (o:=5) _,?_,?_,?_,?_,?_,?_⟩
 ·exact(Mod.grown (X:=λk=>Sub t (ow k)) hgr (λk h=>by rw [o2.out k h];exact Sub.child t 1)).thenSet (p:=⟨B,5,none⟩) (by simp only [o1];exact Sub.rfl' t) _
 ·refine zH.loc fb L.fold (t++ [0]) _ _ _ _ hF.out (by have:=hgr.size;simpa using this) (λk hk1 hs=>⟨Own.ext_old hk1,hoth k hk1 (λe=>by subst e;rw [o1] at hs;exact zQ t 0 hs) (λe=>?_)⟩)
  rw [o2.out k e] at hs;exact(zP t (show(0:Nat)≠1 by omega)).1 hs
 ·unfold qo
  simp only [N1,U5];refine hrow.out.kept (λg hg=>N4 _ _ _ _ (λe=>?_));have e':g=B:=e;subst e'
  rcases hg5 g hg with h|h
  ·exact hneB.out h
  ·omega
 ·refine hG.out.kept (λg hg=>hoth g (hG.out.lt hg) (λe=>?_) (λe=>?_))
  ·subst e;have:=o3.out g hg;rw [o1] at this;simp at this
  ·have h1:=o3.out g hg
   rw [o2.out g e] at h1;simp at h1
 ·rw [Own.ext_old l0,o1]
 ·intro g hg
  rcases hg5 g hg with h|h
  ·rw [Own.ext_old (hH.out.lt h),o2.out g h]
  ·rw [Own.ext_new (by omega) hg]
 ·intro g hg;rw [Own.ext_old (hG.out.lt hg),o3.out g hg]
end
open Go
def zG(d:List UInt8):List UInt8×Int:=if 4096<d.length then([],30)else(qB ([52] ++le4 d.length++d),0)
def jm(s:List UInt8):List UInt8×Nat:=
 if s.length<9 then([],0)
 else if s.head?≠some 52 then([],0)
 else if 4096<yn ((s.drop 1).take 4)then([],0)
 else if s.length<9+yn ((s.drop 1).take 4)then([],0)
 else match xA (s.take (9+yn ((s.drop 1).take 4)))with
  |none=>([],0)
  |some b=>(b.drop 5,9+yn ((s.drop 1).take 4))
def xq:Nat->List UInt8->List (List UInt8)×Nat
 |0,_=>([],0)
 |n+1,s=>if(jm s).2=0 then([],0)else((jm s).1::(xq n (s.drop (jm s).2)).1,(jm s).2+(xq n (s.drop (jm s).2)).2)
structure yb where
 log:List UInt8
 cap:Int
 isCut:Bool
 keep:Int
 crashed:Bool
def qC(cap:Int):yb:={log:=[],cap:=cap,isCut:=false,keep:=0,crashed:=false}
def z6(s:yb)(d:List UInt8):yb×Int:=
 if s.crashed then(s,31)
 else if(zG d).2≠0 then(s,30)
 else if s.cap<s.log.length+(zG d).1.length then(s,30)
 else if s.isCut=false then({s with log:=s.log++(zG d).1},0)
 else({s with log:=s.log++(zG d).1.take (min s.keep (zG d).1.length).toNat,isCut:=false,keep:=0,crashed:=true},31)
def zjX(s:yb)(keep:Int):yb×Int:=if s.crashed then(s,31)else if keep<0 then(s,2)else({s with isCut:=true,keep:=keep},0)
def jr(s:yb):yb×List (List UInt8):=({s with log:=s.log.take (xq s.log.length s.log).2,isCut:=false,keep:=0,crashed:=false},(xq s.log.length s.log).1)
abbrev jl:=Nat×Nat×List UInt8
def j7(v:jl):Bool:= !(decide (v.2.1=0)&& !v.2.2.isEmpty)&& decide (v.2.1<=v.1)&& decide (v.2.2.length<=4000)
def yj(v:jl)(b:Nat):jl×Int:=
 if j7 v=false∨b<1 then((0,0,[]),2)else if b<=v.1 then((0,0,[]),80)else((b,v.2),0)
def Yj(v:jl)(b:Nat)(x:List UInt8):jl×Int:=
 if j7 v=false∨b<1∨4000<x.length then((0,0,[]),2)else if b<v.1 then((0,0,[]),80)else((b,b,x),0)
structure xn where
 votes:List (Int×jl)
 known:List (Int×List UInt8)
 length:Nat
def x9:xn:={votes:=[],known:=[],length:=0}
def zO(i:Int):Bool:=decide (1<=i)&& decide (i<=10000)
def zM(p:xn)(i:Int):jl:=(zD i p.votes).getD (0,0,[])
def le8(n:Nat):List UInt8:=le4 n++le4 (n / 4294967296)
def xr(kind:UInt8)(i:Int)(more:List UInt8):List UInt8:=[kind] ++le4 (i.toNat % 4294967296)++more
def zC(p:xn)(i:Int)(b:Nat):xn×jl×List UInt8×Int:=
 if zO i=false then(p,(0,0,[]),[],2)
 else if(yj (zM p i) b).2≠0 then(p,(0,0,[]),[],(yj (zM p i) b).2)
 else({p with votes:=put i (yj (zM p i) b).1 p.votes},(yj (zM p i) b).1,xr 112 i (le8 b),0)
def vy(p:xn)(i:Int)(b:Nat)(x:List UInt8):xn×List UInt8×Int:=
 if zO i=false then(p,[],2)
 else if(Yj (zM p i) b x).2≠0 then(p,[],(Yj (zM p i) b x).2)
 else({p with votes:=put i (Yj (zM p i) b x).1 p.votes},xr 118 i (le8 b++x),0)
def Jv(known:List (Int×List UInt8)):Nat->Nat->Nat
 |0,at_=>at_
 |n+1,at_=>if(zD ((at_:Int)+1) known).isSome/\at_<10000 then Jv known n (at_+1)else at_
def zS(p:xn)(i:Int)(x:List UInt8):xn×List UInt8×Int:=
 if zO i=false∨4000<x.length then(p,[],2)
 else match zD i p.known with
  |some y=>if y≠x then(p,[],91)else(p,[],0)
  |none=>({p with known:=put i x p.known,length:=Jv (put i x p.known) 10000 p.length},xr 100 i x,0)
def jF(s:List UInt8):Option (UInt8×Int×Nat×List UInt8):=
 if s.length<5 then none
 else if 10000<yn ((s.drop 1).take 4)∨zO (yn ((s.drop 1).take 4))=false then none
 else if s.head?=some 100 then(if(s.drop 5).length<=4000 then some (100,yn ((s.drop 1).take 4),0,s.drop 5)else none)
 else if s.head?=some 112∨s.head?=some 118 then
  (if s.length<13 then none
   else if s.head?=some 112/\s.drop 13≠ [] then none
   else if 1<=yn ((s.drop 5).take 4)+4294967296*yn ((s.drop 9).take 4)/\(s.drop 13).length<=4000 then some (s.head?.getD 0,yn ((s.drop 1).take 4),yn ((s.drop 5).take 4)+4294967296*yn ((s.drop 9).take 4),s.drop 13)else none)
 else none
def xO(kind:UInt8)(v:jl)(b:Nat)(x:List UInt8):jl:=if kind=118/\v.2.1<=b then(max v.1 b,b,x)else(max v.1 b,v.2)
def yx(p:xn)(s:List UInt8):xn:=
 match jF s with
 |none=>p
 |some (k,i,b,x)=>if k=100 then(zS p i x).1 else if xO k (zM p i) b x=zM p i then p else {p with votes:=put i (xO k (zM p i) b x) p.votes}
def vI(s:List UInt8):zy×Nat:=
 if s.length<9 then(((0,0),[]),0)
 else if 1000<yn ((s.drop 5).take 4)∨s.length<9+yn ((s.drop 5).take 4)then(((0,0),[]),0)
 else if zB ((((s.head?.getD 0).toNat:Int),yn ((s.drop 1).take 4)),(s.drop 9).take (yn ((s.drop 5).take 4)))=false then(((0,0),[]),0)
 else(((((s.head?.getD 0).toNat:Int),yn ((s.drop 1).take 4)),(s.drop 9).take (yn ((s.drop 5).take 4))),9+yn ((s.drop 5).take 4))
def yL:Nat->List UInt8->Option (List zy)
 |0,s=>if s=[] then some [] else none
 |n+1,s=>if(vI s).2=0 then none else(yL n (s.drop (vI s).2)).map ((vI s).1::·)
def jK(s:List UInt8):List zy×Int:=
 match s with
 | []=>([],101)
 |b::r=>if 64<b.toNat then([],101)else match yL b.toNat r with|none=>([],101)|some l=>(l,0)
def jo(s:List UInt8):jy×Int:=
 if s.length<6∨4000<s.length then(⟨0,0,0,[]⟩,140)
 else if(jK (s.drop 6)).2≠0 then(⟨0,0,0,[]⟩,140)
 else if(jv ⟨(s.head?.getD 0).toNat,yn ((s.drop 1).take 4),((s.drop 5).head?.getD 0).toNat,(jK (s.drop 6)).1⟩)=(s,0)then(⟨(s.head?.getD 0).toNat,yn ((s.drop 1).take 4),((s.drop 5).head?.getD 0).toNat,(jK (s.drop 6)).1⟩,0)
 else(⟨0,0,0,[]⟩,140)
structure vU where
 waits:List (MId×zy)
 done:List (MId×Unit)
def qD:vU:={waits:=[],done:=[] }
def zeL(p:vU)(m:zy):vU×Int:=
 if zB m=false then(p,100)
 else if(zD m.1 p.waits).isSome∨(zD m.1 p.done).isSome then(p,0)
 else if 1000<=p.waits.length then(p,120)
 else({p with waits:=put m.1 m p.waits},0)
def yM(p:vU)(m:zy):vU:=if(zD m.1 p.done).isSome then p else {waits:=del m.1 p.waits,done:=put m.1 () p.done}
def ZX(p:vU)(l:List zy):vU:=if l.all zB then l.foldl yM p else p
def ltM(a b:zy):Bool:=decide (a.1.1<b.1.1)||(decide (a.1.1=b.1.1)&& decide (a.1.2<=b.1.2))
def ziG(m:zy):List zy->List zy
 | []=>[m]
 |x::l=>if ltM m x then m::x::l else x::ziG m l
def qE(l:List zy):List zy:=l.foldr ziG []
def Ze(p:vU)(most:Nat):List zy:=(qE (p.waits.map (·.2))).take most
structure zp where
 id:Int
 version:Int
 bad:List Int
 store:yb
 pax:xn
 loc:zR
 pool:vU
 acc:List zy
 offered:Nat
 applied:Nat
 wanted:Int
 down:Bool
def qa(n:zp)(s:StD):zp:={n with pax:=x9,loc:=zh9 n.version s,pool:=qD,acc:=[],offered:=0,applied:=0,wanted:=0}
def yf(n:zp)(ofPart:Bool)(d:List UInt8):zp×Int:=
 ({n with store:=(z6 n.store d).1,down:=n.down||decide ((z6 n.store d).2=31)||(ofPart && decide ((z6 n.store d).2≠0))},(z6 n.store d).2)
def jG:Nat->zp->zp
 |0,n=>n
 |k+1,n=>match n.acc[n.offered]? with
  |none=>n
  |some m=>if(zeL n.pool m).2=0 then jG k {n with pool:=(zeL n.pool m).1,offered:=n.offered+1} else {n with pool:=(zeL n.pool m).1}
def Jw(n:zp):Int:=if n.down then 170 else 0
def zF(n:zp)(d:List UInt8):zp×zy×Int:=
 if n.down then(n,((0,0),[]),170)
 else if zB ((n.id,n.acc.length+1),d)=false then(n,((0,0),[]),100)
 else if(yf n false ([109] ++(ye [((n.id,n.acc.length+1),d)]).1)).2≠0 then((yf n false ([109] ++(ye [((n.id,n.acc.length+1),d)]).1)).1,((0,0),[]),(yf n false ([109] ++(ye [((n.id,n.acc.length+1),d)]).1)).2)
 else(jG (n.acc.length+1) {(yf n false ([109] ++(ye [((n.id,n.acc.length+1),d)]).1)).1 with acc:=n.acc++ [((n.id,n.acc.length+1),d)] },((n.id,n.acc.length+1),d),0)
def zA(n:zp)(i:Int)(b:Nat):zp×jl×Int:=
 if n.down then(n,(0,0,[]),170)
 else if(zC n.pax i b).2.2.2≠0 then(n,(0,0,[]),(zC n.pax i b).2.2.2)
 else if(yf {n with pax:=(zC n.pax i b).1} true (zC n.pax i b).2.2.1).2≠0 then((yf {n with pax:=(zC n.pax i b).1} true (zC n.pax i b).2.2.1).1,(0,0,[]),(yf {n with pax:=(zC n.pax i b).1} true (zC n.pax i b).2.2.1).2)
 else((yf {n with pax:=(zC n.pax i b).1} true (zC n.pax i b).2.2.1).1,(zC n.pax i b).2.1,0)
def yE(n:zp)(i:Int)(b:Nat)(x:List UInt8):zp×Int:=
 if n.down then(n,170)
 else if(vy n.pax i b x).2.2≠0 then(n,(vy n.pax i b x).2.2)
 else yf {n with pax:=(vy n.pax i b x).1} true (vy n.pax i b x).2.1
def xP(n:zp)(e:jy):Int:=
 if e.kind=2 then e.ver else if e.kind=3 then(if 1<n.loc.fold.eras.length then((n.loc.fold.eras[n.loc.fold.eras.length - 2]?).getD (0,0,0)).2.1 else 0)else 0
def vJ(n:zp)(e:jy):zp×List zy:=
 let R:=j6 n.loc e (n.bad.contains (xP n e))
 let p:=ZX (ZX n.pool R.2.1) R.1.held
 (jG (n.acc.length+1) {n with loc:=R.1,wanted:=if vk R.1.fold.eras=vk n.loc.fold.eras then n.wanted else 0,pool:=p},R.2.1)
def jn:Nat->zp->zp×List zy
 |0,n=>(n,[])
 |k+1,n=>match zD ((n.applied:Int)+1) n.pax.known with
  |none=>(n,[])
  |some x=>
   if(jo x).2≠0 then jn k {n with applied:=n.applied+1}
   else((jn k (vJ {n with applied:=n.applied+1} (jo x).1).1).1,(vJ {n with applied:=n.applied+1} (jo x).1).2++(jn k (vJ {n with applied:=n.applied+1} (jo x).1).1).2)
def ja(n:zp)(i:Int)(x:List UInt8):zp×List zy×Int:=
 if n.down then(n,[],170)
 else
  let r:=zS n.pax i x
  if r.2.2≠0 then(n,[],r.2.2)
  else if r.2.1=[] then((jn 10001 {n with pax:=r.1}).1,(jn 10001 {n with pax:=r.1}).2,0)
  else
   let q:=yf {n with pax:=r.1} true r.2.1
   if q.2≠0 then(q.1,[],q.2)else((jn 10001 q.1).1,(jn 10001 q.1).2,0)
def ZQ(known:List (Int×List UInt8)):Nat->Nat->Nat
 |0,i=>i
 |k+1,i=>if(zD (i:Int) known).isSome then ZQ known k (i+1)else i
def yy(n:zp):Nat:=ZQ n.pax.known 10001 (n.applied+1)
def qU(e:jy):List UInt8×Bool:=((jv e).1,decide ((jv e).2=0))
def jT(era:qZ):List zy->List zy->List UInt8×Bool->List UInt8×Bool
 |_,[],r=>r
 |p,m::l,r=>if(qU ⟨1,era.1,0,p++ [m]⟩).2 then jT era (p++ [m]) l (qU ⟨1,era.1,0,p++ [m]⟩)else r
def jP(n:zp):List UInt8×Bool:=
 if n.down then([],false)
 else if n.loc.blk then qU ⟨3,(vk n.loc.fold.eras).1,0,[]⟩
 else if n.wanted≠0/\j2 (vk n.loc.fold.eras).2.1 n.wanted=0 then qU ⟨2,(vk n.loc.fold.eras).1,n.wanted,[]⟩
 else jT (vk n.loc.fold.eras) [] (Ze n.pool (if(if known (vk n.loc.fold.eras).2.1 then(if(vk n.loc.fold.eras).2.1=1 then(1:Int)else 2)else 0)=1 then 1 else 8)) ([],false)
def ZY(n:zp)(v:Int):zp×Int:=
 if n.down then(n,170)else if j2 (vk n.loc.fold.eras).2.1 v≠0 then(n,j2 (vk n.loc.fold.eras).2.1 v)else({n with wanted:=v},0)
def zjY(n:zp)(k:Int):zp×Int:=if n.down then(n,170)else({n with store:=(zjX n.store k).1},(zjX n.store k).2)
def VF(n:zp):zp×Int:=if n.down then(n,170)else({n with down:=true},0)
def yg(n:zp)(r:List UInt8):zp:=
 match r with
 | []=>n
 |k::d=>if k=109/\(jK d).2=0/\(jK d).1.length=1 then {n with acc:=n.acc++(jK d).1} else {n with pax:=yx n.pax r}
def yP(n:zp)(s:StD):zp:=
 let R:=jr n.store
 let m:=R.2.foldl yg (qa {n with store:=R.1} s)
 {(jG ((jn 10001 m).1.acc.length+1) (jn 10001 m).1)with down:=false}
