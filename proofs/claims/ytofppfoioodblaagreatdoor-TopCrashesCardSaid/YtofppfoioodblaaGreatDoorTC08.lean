/- PARTS OF THE PROOF. -/
import Derived.Test.YtofppfoioodblaaGreatDoorTC06
import Derived.Test.YtofppfoioodblaaGreatDoorTC07
set_option maxRecDepth 8000
set_option maxHeartbeats 4000000
open Go.Proofs.Tryz
namespace Go.Proofs.YtofppfoioodblaaGreatDoor
section
open Go Go.RowKit Go.Shelf Go.Extern.Stop Go.Stop Go.Extern
attribute [local go_sem] Oper.semAt_some zB zp
abbrev StD:=Int×Nat×List UInt8
structure zP where
 fold:yW
 st:StD
 blk:Bool
 held:List zA
 log:List zA
def VN(s:StD)(v:Int)(fails:Bool):StD:=if s.1≠v/\fails=false/\(yq s.1 s.2.1 s.2.2 v).2=0 then(yq s.1 s.2.1 s.2.2 v).1 else s
def yr(L:zP)(v:Int)(fails:Bool):zP:={L with st:=VN L.st v fails,blk:=decide ((VN L.st v fails).1≠v)}
def qL(L:zP)(l:List zA):zP:={L with held:=L.held++l}
def yK(L:zP):zP×List zA:=if L.blk then(L,[])else({L with held:=[],log:=L.log++L.held},L.held)
def zjz(L:zP)(R:yW×List zA×Bool×Int)(fails:Bool):zP:=if R.2.2.1 then yr {L with fold:=R.1} (vC R.1.eras).2.1 fails else {L with fold:=R.1}
def yk(L:zP)(e:jH)(fails:Bool):zP×List zA×Int:=
 if(j4 L.fold e).2.2.2≠0 then({L with fold:=(j4 L.fold e).1},[],(j4 L.fold e).2.2.2)
 else((yK (qL (zjz L (j4 L.fold e) fails) (j4 L.fold e).2.1)).1,(yK (qL (zjz L (j4 L.fold e) fails) (j4 L.fold e).2.1)).2,0)
def zeT(v:Int)(s:StD):zP:={fold:=ZB v,st:=s,blk:=false,held:=[],log:=[] }
theorem QV {v:Int}{c:Nat}{d:List UInt8}{vto:Int}(h:(yq v c d vto).2=0):(yq v c d vto).1.1=vto/\known vto=true:=by
 unfold yq at h⊢
 split at h
 ·rename_i h0;exact absurd h h0
 rename_i h0
 have h1:=Xg (Decidable.not_not.1 h0);have hk:known vto=true:=by simp [known];omega
 rw [if_neg h0]
 split at h
 ·simp at h
 rename_i h2
 rw [if_neg h2]
 split at h
 ·exact⟨rfl,hk⟩
 simp at h
theorem zdz {s:StD}(h:known s.1=true)(v:Int)(fails:Bool):known (VN s v fails).1=true:=by
 unfold VN
 split
 ·rename_i hh
  have:=QV hh.2.2;rw [this.1];exact this.2
 exact h
def j3(fb:Nat)(hv lv:Value)(L:zP):Array Value:=#[.pointer (some ⟨fb,0,none⟩),.int .i64 L.st.1,.int .u32 L.st.2.1,.string (bs L.st.2.2),.bool L.blk,hv,lv]
def zK(B:Nat)(L:zP)(t:List Nat)(ow:Own)(W:World):Prop:=
 known L.st.1=true/\∃fb hv lv,Blk W B (j3 fb hv lv L) 117/\zJ fb L.fold (t++ [0]) ow W/\Row W 78 3 hv L.held.length (L.held.flatMap zg)/\Row W 78 3 lv L.log.length (L.log.flatMap zg)/\
  ow B=t/\(∀g,hv.ownBlock=some g->ow g=t++ [1])/\∀g,lv.ownBlock=some g->ow g=t++ [2]
theorem zK.loc(B:Nat)(L:zP)(t:List Nat):yI t (zK B L t):=by
 rintro ow ow' W W'⟨aa,fb,hv,lv,hB,hF,hH,hG,o1,o2,o3⟩ hs hk;have kB:=hk B hB.lt (by rw [o1];exact Sub.rfl' t);have kH:∀g,hv.ownBlock=some g->ow' g=ow g/\W'.heap[g]?=W.heap[g]?:=λg hg=>hk g (hH.lt hg) (by rw [o2 g hg];exact Sub.child t 1)
 have kG:∀g,lv.ownBlock=some g->ow' g=ow g/\W'.heap[g]?=W.heap[g]?:=λg hg=>hk g (hG.lt hg) (by rw [o3 g hg];exact Sub.child t 2)
 refine⟨aa,fb,hv,lv,hB.kept kB.2,?_,hH.kept (λg hg=>(kH g hg).2),hG.kept (λg hg=>(kG g hg).2),kB.1.trans o1,λg hg=>(kH g hg).1.trans (o2 g hg),λg hg=>(kG g hg).1.trans (o3 g hg)⟩;exact(zJ.loc fb L.fold (t++ [0])) ow ow' W W' hF hs (λk hk1 hk2=>hk k hk1 ((Sub.child t 0).trans hk2))
def zbM(B:Nat)(L:zP)(t:List Nat)(ow:Own)(w:World)(v:Value)(e:Ending)(w':World):Prop:=
 e=.returned v/\∃ow',zt t ow w ow' w'/\zK B L t ow' w'
theorem Xh(a:Addr)(w:World):(binOp .eql 54 (.pointer (some a)) (.pointer none)).run prog w=.ok (.bool false) w:=by kernel_rfl
theorem zeU {v:Int}(h:known v=true):v≠0:=by
 simp [known] at h;omega
theorem Z4(B:Nat)(L:zP)(t:List Nat)(ow:Own)(w:World)(h:zK B L t ow w):Calls prog 41 #[.pointer (some ⟨B,0,none⟩)] w λe w'=>e=.returned (.bool false)/\w'=w:=by
 obtain⟨hk,fb,hv,lv,hB, -⟩:=h;have h0:=Xh ⟨B,0,none⟩ w;have h1:(L.st.1==0)=false:=by simpa using zeU hk
 have h2:L.st.1≠0:=zeU hk;have e0:=hB.cell;unfold j3 at e0;clear hB hk
 go_enter func41,ntmps41
 go_wp2;go_ret
 exact⟨rfl,rfl⟩
theorem Vs(B:Nat)(L:zP)(t:List Nat)(ow:Own)(w:World)(h:zK B L t ow w):Calls prog 184 #[.pointer (some ⟨B,0,none⟩)] w λe w'=>e=.returned (.bool L.blk)/\w'=w:=by
 have hn:=Z4 B L t ow w h;obtain⟨hk,fb,hv,lv,hB, -⟩:=h;have e0:=hB.cell;unfold j3 at e0;clear hB hk;replace hn:=hid hn
 go_enter func184,ntmps184
 go_wp2_with (go_at_call 41;refine hn.out.mono ?_;rintro e w1 ⟨rfl,rfl⟩)
 go_ret
 exact⟨rfl,rfl⟩
theorem zaE(B:Nat)(L:zP)(t:List Nat)(ow:Own)(w:World)(h:zK B L t ow w)(hl:L.log.length<=1073741824):Calls prog 22 #[.pointer (some ⟨B,0,none⟩)] w λe w'=>
 ∃v',e=.returned v'/\Row w' 78 3 v' L.log.length (L.log.flatMap zg)/\Below w.heap.size w w'/\(∀g,v'.ownBlock=some g->w.heap.size<=g):=by
 have hn:=Z4 B L t ow w h;obtain⟨hk,fb,hv,lv,hB,hF,hH,hG, -⟩:=h;have e0:=hB.cell;unfold j3 at e0;have hc:=Xa lv L.log w hG.src hl;replace hn:=hid hn;replace hc:=hid hc;clear hB hk hF hH hG
 go_enter func22,ntmps22
 go_wp2_with (first
  |(go_at_call 41;refine hn.out.mono ?_;rintro e w1 ⟨rfl,rfl⟩)
  |(go_at_call 38;refine hc.out.mono ?_;rintro e w2 ⟨v',rfl,h1,h2,h3⟩;replace h3:Hid (∀_,_):=h3))
 go_ret
 exact⟨_,rfl,h1,h2,h3.out⟩
theorem zfT(B:Nat)(L:zP)(t:List Nat)(ow:Own)(w:World)(h:zK B L t ow w)(hl:L.held.length<=1073741824):Calls prog 218 #[.pointer (some ⟨B,0,none⟩)] w λe w'=>
 ∃v',e=.returned v'/\Row w' 78 3 v' L.held.length (L.held.flatMap zg)/\Below w.heap.size w w'/\(∀g,v'.ownBlock=some g->w.heap.size<=g):=by
 have hn:=Z4 B L t ow w h;obtain⟨hk,fb,hv,lv,hB,hF,hH,hG, -⟩:=h;have e0:=hB.cell;unfold j3 at e0;have hc:=Xa hv L.held w hH.src hl;replace hn:=hid hn;replace hc:=hid hc;clear hB hk hF hH hG
 go_enter func218,ntmps218
 go_wp2_with (first
  |(go_at_call 41;refine hn.out.mono ?_;rintro e w1 ⟨rfl,rfl⟩)
  |(go_at_call 38;refine hc.out.mono ?_;rintro e w2 ⟨v',rfl,h1,h2,h3⟩;replace h3:Hid (∀_,_):=h3))
 go_ret
 exact⟨_,rfl,h1,h2,h3.out⟩
end
section
open Go Go.RowKit Go.Shelf Go.Extern.Stop Go.Stop Go.Extern
attribute [local go_sem] Oper.semAt_some zB zp
def zmA(x:ZA):Array Value:=#[.int .u32 x.1,.int .i64 x.2.1,.int .i64 x.2.2]
theorem zh0 {l:List ZA}{k:Nat}{x:ZA}(h:l[k]?=some x):vC (l.take (k+1))=x:=by
 unfold vC;rw [List.take_add_one,h];simp
theorem zaF(B:Nat)(L:zP)(t:List Nat)(ow:Own)(w:World)(h:zK B L t ow w)(hl:L.fold.eras.length<=536870912):Calls prog 164 #[.pointer (some ⟨B,0,none⟩)] w λe w'=>e=.returned (Yg (vC L.fold.eras))/\Below w.heap.size w w':=by
 obtain⟨hk,fb,hv,lv,hB,hF, -⟩:=h;have he:=zeO fb L.fold (t++ [0]) ow;have ah:=hB.cell 0;have ao:=hB.lt;replace ah:w.cell? ⟨B,0,none⟩=some (.pointer (some ⟨fb,0,none⟩)):=ah;have aa:=λW (hW:Below w.heap.size w W)=>(hW.cell (p:=⟨B,0,none⟩) ao).trans ah
 clear hB hk
 generalize L.fold.eras=l at*
 obtain⟨⟨ep,ve,st⟩,hn⟩:∃n,vC l=n:=⟨_,rfl⟩;rw [hn];unfold Yg;replace hn:=hid hn;replace he:=hid he;replace hF:=hid hF;replace aa:=hid aa;obtain⟨N,hN⟩:∃N,N=w.heap.size:=⟨_,rfl⟩
 go_enter func164,ntmps164
 go_wp2_with fail
 refine(he.out _ ((zJ.loc fb L.fold _).below hF.out (pbx)) hl).mono ?_;rintro e w1⟨ev,rfl,hR,af,al⟩;have k2:Blk w1 w.heap.size #[.int .u32 0,.int .i64 0,.int .i64 0] 197:=Blk.call (bkx) af;have k3:Blk w1 (w.heap.size+1) #[.int .u32 0,.int .i64 0,.int .i64 0] 197:=Blk.call (bkx) af;have an:Below w.heap.size w w1:=pbx;have hz:w.heap.size+2<=w1.heap.size:=by have:=af.size;simp at this;omega
 have ad:∀g,ev.ownBlock=some g->w.heap.size+1<g:=λg hg=>by have:=al g hg;simp at this;omega
 clear af al he hF aa hN;obtain⟨ea,ec,rfl⟩:=hR.src.shape;replace hR:=hid hR;replace k2:=hid k2;replace k3:=hid k3;replace ad:=hid ad;go_wp2
 go_loopw [12] (λp12 wr=>∃k:Nat,p12=.int .i64 k/\k<=l.length/\Blk wr w.heap.size #[.int .u32 0,.int .i64 0,.int .i64 0] 197/\Blk wr (w.heap.size+1) (zmA (vC (l.take k))) 197/\Below w.heap.size w wr/\w.heap.size+2<=wr.heap.size/\Row wr 197 3 (.slice ea l.length ec) l.length (l.flatMap ji)) (λp12 _=>l.length - (intOf p12).toNat)
 case atStart=>exact⟨0,rfl,Nat.zero_le _,k2.out,k3.out,an,hz,hR.out⟩
 case round=>
  obtain⟨k,rfl,aq,q2,q3,am,ar,ac⟩:=hrel;clear k2 k3 an hz hR
  by_cases hlt:k<l.length
  ·obtain⟨⟨ag,ai,ak⟩,hx⟩:∃x,l[k]?=some x:=⟨_,N3 hlt⟩
   have aj:=zh0 hx
   rcases ac.form with⟨-,h, -⟩|⟨g,cap',h,hcc, -⟩
   ·omega
   cases h
   have aa:∀q,q<3->wr.cell? ⟨g,k*3+q,none⟩=(ji (ag,ai,ak))[q]?:=λq hq=>by
    have h1:=Z3 l k _ hx q hq;rw [← h1,ac.cellAt _ (by omega)]
   have c0:wr.cell? ⟨g,k*3,none⟩=some (.int .u32 ag):=aa 0 (by omega);have c1:wr.cell? ⟨g,k*3+1,none⟩=some (.int .i64 ai):=aa 1 (by omega);have c2:wr.cell? ⟨g,k*3+2,none⟩=some (.int .i64 ak):=aa 2 (by omega);have l3:=q3.lt;have f3:=q3.frozen;have ae:=q3.cell;unfold zmA at ae;have hg:=ad.out g rfl;have au:=ac.lt (g:=g) rfl;have z0:(0:Int)<=k:=by omega
   have z1:(k:Int)<(l.length:Int):=by omega
   replace ac:=hid ac;replace q2:=hid q2;replace q3:=hid q3;replace aj:=hid aj;clear aa hx;go_wp2
   go_roundw
   case rel=>
    refine⟨k+1,by go_num,by omega,?_,?_,?_,?_,?_⟩
    ·exact Blk.alloc (((q2.out.other (show w.heap.size≠w.heap.size+1 by omega) _).other (show w.heap.size≠w.heap.size+1 by omega) _).other (show w.heap.size≠w.heap.size+1 by omega) _) _
    ·rw [aj.out]
     exact Blk.alloc (((q3.out.set (o:=0) (.int .u32 ag)).set (o:=1) (.int .i64 ai)).set (o:=2) (.int .i64 ak)) _
    ·exact zi (zn (zn (zn am (by simp) _) (by simp) _) (by simp) _) _
    ·simp;omega
    refine Row.below (ac.out.kept (λg' hg'=>?_)) (zi (N2 _ _) _)
    cases hg'
    rw [N4 _ _ _ _ (show g≠w.heap.size+1 by omega),N4 _ _ _ _ (show g≠w.heap.size+1 by omega),N4 _ _ _ _ (show g≠w.heap.size+1 by omega)]
   case measure=>simp [intOf];omega
  have ap:k=l.length:=by omega
  subst ap;rw [List.take_length] at q3;have ae:=q3.cell;have aw:=q2.cell;have f2:=q2.frozen;have l2:=q2.lt;unfold zmA at ae;rw [hn.out] at ae;simp only at ae;clear ac;have r1:=(((q2.set (o:=0) (.int .u32 ep)).set (o:=1) (.int .i64 ve)).set (o:=2) (.int .i64 st)).cell;go_wp2;exact bodyPost_ret (v:=.agg #[.int .u32 ep,.int .i64 ve,.int .i64 st]) (by simp [results,Tryz.results164,go_sem,r1]) rfl ⟨rfl,zn (zn (zn am (by simp) _) (by simp) _) (by simp) _⟩
theorem VT(B:Nat)(L:zP)(t:List Nat)(ow:Own)(w:World)(h:zK B L t ow w)(hl:L.fold.eras.length<=536870912):Calls prog 111 #[.pointer (some ⟨B,0,none⟩)] w λe w'=>e=.returned (Yg (vC L.fold.eras))/\Below w.heap.size w w':=by
 have aa:=zaF B L t ow;have ac:=Z4 B L t ow;obtain⟨⟨ep,ve,st⟩,hn⟩:∃n,vC L.fold.eras=n:=⟨_,rfl⟩;rw [hn] at aa⊢;unfold Yg at aa⊢;replace aa:=hid aa;replace ac:=hid ac;replace h:=hid h;replace hn:=hid hn
 go_enter func111,ntmps111
 go_wp2_with fail
 refine(ac.out _ ((zK.loc B L t).below h.out (pbx))).mono ?_;rintro e w1⟨rfl,rfl⟩;go_wp2_with fail
 refine(aa.out _ ((zK.loc B L t).below h.out (pbx)) hl).mono ?_;rintro e w1⟨rfl,ae⟩;have k:Blk w1 w.heap.size #[.int .u32 0,.int .i64 0,.int .i64 0] 197:=Blk.call (bkx) ae;have kc:=k.cell;have kf:=k.frozen;have kl:=k.lt;have ad:Below w.heap.size w w1:=pbx;have r1:=(((k.set (o:=0) (.int .u32 ep)).set (o:=1) (.int .i64 ve)).set (o:=2) (.int .i64 st)).cell;go_wp2;exact bodyPost_ret (v:=.agg #[.int .u32 ep,.int .i64 ve,.int .i64 st]) (by simp [results,Tryz.results111,go_sem,r1]) rfl ⟨rfl,zn (zn (zn ad (by simp) _) (by simp) _) (by simp) _⟩
theorem zj1(B:Nat)(L:zP)(t:List Nat)(ow:Own)(w:World)(h:zK B L t ow w)(hb:L.blk=false):Calls prog 140 #[.pointer (some ⟨B,0,none⟩)] w λe w'=>e=.returned (.tuple #[.agg #[.int .i64 0,.int .u32 0,.int .i64 0,.slice none 0 0],.bool false])/\Below w.heap.size w w':=by
 have aa:=Vs B L t ow;rw [hb] at aa;replace aa:=hid aa;replace h:=hid h;replace hb:=hid hb
 go_enter func140,ntmps140
 go_wp2_with fail
 refine(aa.out _ ((zK.loc B L t).below h.out (pbx))).mono ?_;rintro e w1⟨rfl,rfl⟩;go_wp2;exact bodyPost_ret (v:=.tuple #[.agg #[.int .i64 0,.int .u32 0,.int .i64 0,.slice none 0 0],.bool false]) (by simp [results,Tryz.results140,go_sem]) rfl ⟨rfl,pbx⟩
theorem zh1(B:Nat)(L:zP)(t:List Nat)(ow:Own)(w:World)(h:zK B L t ow w)(hb:L.blk=true)(hl:L.fold.eras.length<=536870912):Calls prog 140 #[.pointer (some ⟨B,0,none⟩)] w λe w'=>e=.returned (.tuple #[.agg #[.int .i64 3,.int .u32 (vC L.fold.eras).1,.int .i64 0,.slice none 0 0],.bool true])/\Below w.heap.size w w':=by
 have ac:=Vs B L t ow;rw [hb] at ac;have aa:=zaF B L t ow;obtain⟨⟨ep,ve,st⟩,hn⟩:∃n,vC L.fold.eras=n:=⟨_,rfl⟩;rw [hn] at aa⊢;unfold Yg at aa;have af:=zhK ep ve st;replace aa:=hid aa;replace ac:=hid ac;replace h:=hid h;replace hb:=hid hb;replace hn:=hid hn
 go_enter func140,ntmps140
 go_wp2_with fail
 refine(ac.out _ ((zK.loc B L t).below h.out (pbx))).mono ?_;rintro e w1⟨rfl,rfl⟩;go_wp2_with fail
 refine(aa.out _ ((zK.loc B L t).below h.out (pbx)) hl).mono ?_;rintro e w1⟨rfl,ad⟩;have k:Blk w1 w.heap.size #[.int .i64 0,.int .u32 0,.int .i64 0,.slice none 0 0] 241:=Blk.call (bkx) ad;have kc:=k.cell;have kf:=k.frozen;have kl:=k.lt;have ae:Below w.heap.size w w1:=pbx;have r1:=((((k.set (o:=0) (.int .i64 3)).set (o:=1) (.int .u32 ep)).set (o:=2) (.int .i64 0)).set (o:=3) (.slice none 0 0)).cell;go_wp2;exact bodyPost_ret (v:=.tuple #[.agg #[.int .i64 3,.int .u32 ep,.int .i64 0,.slice none 0 0],.bool true]) (by simp [results,Tryz.results140,go_sem,r1]) rfl ⟨rfl,zn (zn (zn (zn ae (by simp) _) (by simp) _) (by simp) _) (by simp) _⟩
end
section
open Go Go.RowKit Go.Shelf Go.Extern.Stop Go.Stop Go.Extern
attribute [local go_sem] Oper.semAt_some zB zp
theorem zdA {B fb:Nat}{L L':zP}{t:List Nat}{ow:Own}{w W':World}{hv lv:Value}(hk:known L'.st.1=true)(hB:Blk w B (j3 fb hv lv L) 117)(hF:zJ fb L.fold (t++ [0]) ow w)
 (hH:Row w 78 3 hv L.held.length (L.held.flatMap zg)) (hG:Row w 78 3 lv L.log.length (L.log.flatMap zg)) (o1:ow B=t) (o2:∀g,hv.ownBlock=some g->ow g=t++ [1]) (o3:∀g,lv.ownBlock=some g->ow g=t++ [2])
 (hM:Mod (λk=>k=B) w W') (hB':Blk W' B (j3 fb hv lv L') 117) (e1:L'.fold=L.fold) (e2:L'.held=L.held) (e3:L'.log=L.log):zt t ow w (ow.cut w) W'/\zK B L' t (ow.cut w) W':=by
 refine⟨⟨hM.mono (λk _ e=>by subst e;rw [o1];exact Sub.rfl' t),λk hk=>Own.cut_old hk⟩,hk,fb,hv,lv,hB',?_,?_,?_,?_,?_,?_⟩
 ·rw [e1]
  exact zJ.loc fb L.fold (t++ [0]) _ _ _ _ hF hM.size (λk hk hs=>⟨Own.cut_old hk,hM.block k hk (λe=>by subst e;rw [o1] at hs;exact zU t 0 hs)⟩)
 ·rw [e2];exact hH.mod hM (λg hg=>hH.ne_blk hB (by decide) hg)
 ·rw [e3];exact hG.mod hM (λg hg=>hG.ne_blk hB (by decide) hg)
 ·rw [Own.cut_old hB.lt,o1]
 ·intro g hg;rw [Own.cut_old (hH.lt hg),o2 g hg]
 intro g hg;rw [Own.cut_old (hG.lt hg),o3 g hg]
theorem zbN(a:Addr)(B:Nat)(L:zP)(t:List Nat)(ow:Own)(v:Int)(fails:Bool)(w:World)(he:jK w a)(h:zK B L t ow w):
 Calls prog 262 #[.pointer (some ⟨B,0,none⟩),.int .i64 v,.bool fails] w (zbM B (yr L v fails) t ow w (.tuple #[])):=by
 obtain⟨hk,fb,hv,lv,hB,hF,hH,hG,o1,o2,o3⟩:=h;have hw:=λ(L':zP)(W':World)(hk':known L'.st.1=true)(hM:Mod (λk=>k=B) w W') (hB':Blk W' B (j3 fb hv lv L') 117) (e1:L'.fold=L.fold) (e2:L'.held=L.held) (e3:L'.log=L.log)=>zdA hk' hB hF hH hG o1 o2 o3 hM hB' e1 e2 e3
 clear hF hH hG o1 o2 o3;have ah:=zdz hk v fails;unfold j3 at hB hw;have e0:=hB.cell;have f0:=hB.frozen;have l0:=hB.lt;obtain⟨fo,⟨sv,sc,sd⟩,bl,ac,lo⟩:=L;simp only at*;replace hw:=hid hw;replace ah:=hid ah;replace hk:=hid hk
 by_cases h1:sv=v
 ·have t1:(sv !=v)=false:=by simp [h1]
  have hm:VN (sv,sc,sd) v fails=(sv,sc,sd):=by unfold VN;rw [if_neg (by simp [h1])]
  have hL:yr ⟨fo,(sv,sc,sd),bl,ac,lo⟩ v fails=⟨fo,(sv,sc,sd),false,ac,lo⟩:=by unfold yr;simp only [hm];simp [h1]
  rw [hL];replace hm:=hid hm;replace hL:=hid hL;replace hB:=hid hB;replace h1:=hid h1
  go_enter func262,ntmps262
  go_wp2;go_end0
  have hq:=hw.out ⟨fo,(sv,sc,sd),false,ac,lo⟩ (w.setCell ⟨B,4,none⟩ (.bool false)) hk.out (Mod.setCell w _ _ rfl) (hB.out.set (o:=4) (.bool false)) rfl rfl rfl;exact⟨rfl,_,hq.1,hq.2⟩
 have t1:(sv !=v)=true:=by simp [h1]
 cases fails
 ·obtain⟨⟨⟨v',c',d'⟩,er⟩,ad⟩:∃x,yq sv sc sd v=x:=⟨_,rfl⟩
  have aa:=λW (hW:Below w.heap.size w W)=>QU ad W (he.below hW he.lt)
  by_cases h2:er=0
  ·subst h2
   have ag:=QV (v:=sv) (c:=sc) (d:=sd) (vto:=v) (by rw [ad]);rw [ad] at ag;obtain⟨ai,af⟩:=ag;simp only at ai;subst ai;have hm:VN (sv,sc,sd) v' false=(v',c',d'):=by unfold VN;rw [if_pos ⟨h1,rfl,by rw [ad]⟩,ad]
   have hL:yr ⟨fo,(sv,sc,sd),bl,ac,lo⟩ v' false=⟨fo,(v',c',d'),false,ac,lo⟩:=by unfold yr;simp only [hm];simp
   rw [hL];replace hm:=hid hm;replace hL:=hid hL;replace hB:=hid hB;replace h1:=hid h1;replace ad:=hid ad;replace af:=hid af;replace aa:=hid aa
   go_enter func262,ntmps262
   go_wp2_with fail
   refine(aa.out _ (N2 _ _)).mono ?_;rintro e w1⟨rfl,ae⟩;have k1:=hB.out.call ae;have e1:=k1.cell;have f1:=k1.frozen;have l1:=k1.lt;replace k1:=hid k1;clear e0 f0;go_wp2;go_end0
   have hq:=hw.out ⟨fo,(v',c',d'),false,ac,lo⟩ (((((w1.setCell ⟨B,1,none⟩ (.int .i64 v')).setCell ⟨B,2,none⟩ (.int .u32 c')).setCell ⟨B,3,none⟩ (.string (bs d'))).setCell ⟨B,4,none⟩ (.bool false)).alloc (.cells #[.int .i64 v',.int .u32 c',.string (bs d')] 115)) af.out
    ((((((Mod.of_below (λk=>k=B) ae).thenSet (p:=⟨B,1,none⟩) rfl _).thenSet (p:=⟨B,2,none⟩) rfl _).thenSet (p:=⟨B,3,none⟩) rfl _).thenSet (p:=⟨B,4,none⟩) rfl _).thenAlloc _)
    (Blk.alloc ((((k1.out.set (o:=1) (.int .i64 v')).set (o:=2) (.int .u32 c')).set (o:=3) (.string (bs d'))).set (o:=4) (.bool false)) _) rfl rfl rfl
   exact⟨rfl,_,hq.1,hq.2⟩
  have t2:(er==0)=false:=by simpa using h2
  have hm:VN (sv,sc,sd) v false=(sv,sc,sd):=by unfold VN;rw [if_neg (by rw [ad];simp [h2])]
  have hL:yr ⟨fo,(sv,sc,sd),bl,ac,lo⟩ v false=⟨fo,(sv,sc,sd),true,ac,lo⟩:=by unfold yr;simp only [hm];simp [h1]
  rw [hL];replace hm:=hid hm;replace hL:=hid hL;replace hB:=hid hB;replace h1:=hid h1;replace h2:=hid h2;replace ad:=hid ad;replace aa:=hid aa
  go_enter func262,ntmps262
  go_wp2_with fail
  refine(aa.out _ (N2 _ _)).mono ?_;rintro e w1⟨rfl,ae⟩;have k1:=hB.out.call ae;have e1:=k1.cell;have f1:=k1.frozen;have l1:=k1.lt;replace k1:=hid k1;clear e0 f0;go_wp2;go_end0
  have hq:=hw.out ⟨fo,(sv,sc,sd),true,ac,lo⟩ ((w1.setCell ⟨B,4,none⟩ (.bool true)).alloc (.cells #[.int .i64 v',.int .u32 c',.string (bs d')] 115)) hk.out
   (((Mod.of_below (λk=>k=B) ae).thenSet (p:=⟨B,4,none⟩) rfl _).thenAlloc _)
   (Blk.alloc (k1.out.set (o:=4) (.bool true)) _) rfl rfl rfl
  exact⟨rfl,_,hq.1,hq.2⟩
 have hm:VN (sv,sc,sd) v true=(sv,sc,sd):=by unfold VN;rw [if_neg (by simp)]
 have hL:yr ⟨fo,(sv,sc,sd),bl,ac,lo⟩ v true=⟨fo,(sv,sc,sd),true,ac,lo⟩:=by unfold yr;simp only [hm];simp [h1]
 rw [hL];replace hm:=hid hm;replace hL:=hid hL;replace hB:=hid hB;replace h1:=hid h1
 go_enter func262,ntmps262
 go_wp2;go_end0
 have hq:=hw.out ⟨fo,(sv,sc,sd),true,ac,lo⟩ (w.setCell ⟨B,4,none⟩ (.bool true)) hk.out (Mod.setCell w _ _ rfl) (hB.out.set (o:=4) (.bool true)) rfl rfl rfl;exact⟨rfl,_,hq.1,hq.2⟩
theorem zbO(B:Nat)(L:zP)(t:List Nat)(ow:Own)(mv:Value)(ms:List zA)(w:World)(h:zK B L t ow w)(hm:Src w mv 3 ms.length (ms.flatMap zg))(hl:L.held.length+ms.length<=1073741824):
 Calls prog 263 #[.pointer (some ⟨B,0,none⟩),mv] w (zbM B (qL L ms) t ow w (.tuple #[])):=by
 obtain⟨hk,fb,hv,lv,hB,hF,hH,hG,o1,o2,o3⟩:=h;unfold j3 at hB;have e0:=hB.cell;have l0:=hB.lt;obtain⟨ma,mc,rfl⟩:=hm.shape;obtain⟨ha,hn,hc,rfl⟩:=hH.shape;obtain⟨ai,W3,ag,aa,af,ad⟩:=zQ zbD hH hm (jv ms) hl 42;have ac:(Value.slice ha hn hc).ownBlock≠some B:=λe=>(hH.ne_blk hB (by decide) e) rfl
 have k3:=hB.kept (af.block B hB.lt (λe=>ac e.symm));have f3:=k3.frozen;have l3:=k3.lt;have c3:=k3.cell;obtain⟨sa,sm,sc,rfl⟩:=aa.shape;clear hm;replace hB:=hid hB;replace hF:=hid hF;replace hH:=hid hH;replace hG:=hid hG;replace aa:=hid aa;replace k3:=hid k3;replace o2:=hid o2;replace o3:=hid o3;replace ad:=hid ad;replace ac:=hid ac;replace hk:=hid hk
 go_enter func263,ntmps263
 go_wp2_with (at_builtin
              refine zw rfl _ _ _ rfl rfl rfl ag ?_)
 go_end0
 have ah:∀g,(Value.slice sa sm sc).ownBlock=some g->((Value.slice ha hn hc).ownBlock=some g∨g=w.heap.size):=λg hg=>by
  have:=ad.out;rw [hg] at this
  rcases this with h|h
  ·exact .inl h.symm
  right;simpa using h
 have ae:∀k,k<w.heap.size->k≠B->(Value.slice ha hn hc).ownBlock≠some k->(W3.setCell ⟨B,5,none⟩ (.slice sa sm sc)).heap[k]?=w.heap[k]?:=λk hk1 h1 h2=>
  (N4 _ _ _ _ h1).trans (af.block k hk1 (λe=>h2 e.symm))
 refine⟨rfl,ow.ext w.heap.size (λk=>(Value.slice sa sm sc).ownBlock=some k) (t++ [1]),⟨?_,λk hk=>Own.ext_old hk⟩,hk.out,fb,.slice sa sm sc,lv,k3.out.set (o:=5) _,?_,?_,?_,?_,?_,?_⟩
 ·exact(Mod.grown (X:=λk=>Sub t (ow k)) af (λk h=>by rw [o2.out k h];exact Sub.child t 1)).thenSet (p:=⟨B,5,none⟩) (by simp only [o1];exact Sub.rfl' t) _
 ·refine zJ.loc fb L.fold (t++ [0]) _ _ _ _ hF.out (by have:=af.size;simpa using this) (λk hk1 hs=>⟨Own.ext_old hk1,ae k hk1 (λe=>by subst e;rw [o1] at hs;exact zU t 0 hs) (λe=>?_)⟩)
  rw [o2.out k e] at hs;exact(zS t (show(0:Nat)≠1 by omega)).1 hs
 ·unfold qL
  simp only [N1,U5];refine aa.out.kept (λg hg=>N4 _ _ _ _ (λe=>?_));have e':g=B:=e;subst e'
  rcases ah g hg with h|h
  ·exact ac.out h
  omega
 ·refine hG.out.kept (λg hg=>ae g (hG.out.lt hg) (λe=>?_) (λe=>?_))
  ·subst e;have:=o3.out g hg;rw [o1] at this;simp at this
  have h1:=o3.out g hg
  rw [o2.out g e] at h1;simp at h1
 ·rw [Own.ext_old l0,o1]
 ·intro g hg
  rcases ah g hg with h|h
  ·rw [Own.ext_old (hH.out.lt h),o2.out g h]
  rw [Own.ext_new (by omega) hg]
 intro g hg;rw [Own.ext_old (hG.out.lt hg),o3.out g hg]
end
section
open Go
def zH(d:List UInt8):List UInt8×Int:=if 4096<d.length then([],30)else(Zb ([52] ++le4 d.length++d),0)
def jy(s:List UInt8):List UInt8×Nat:=
 if s.length<9 then([],0)
 else if s.head?≠some 52 then([],0)
 else if 4096<yy ((s.drop 1).take 4)then([],0)
 else if s.length<9+yy ((s.drop 1).take 4)then([],0)
 else match xU (s.take (9+yy ((s.drop 1).take 4)))with
  |none=>([],0)
  |some b=>(b.drop 5,9+yy ((s.drop 1).take 4))
def xN:Nat->List UInt8->List (List UInt8)×Nat
 |0,_=>([],0)
 |n+1,s=>if(jy s).2=0 then([],0)else((jy s).1::(xN n (s.drop (jy s).2)).1,(jy s).2+(xN n (s.drop (jy s).2)).2)
structure yl where
 log:List UInt8
 cap:Int
 isCut:Bool
 keep:Int
 crashed:Bool
def Zd(cap:Int):yl:={log:=[],cap:=cap,isCut:=false,keep:=0,crashed:=false}
def zT(s:yl)(d:List UInt8):yl×Int:=
 if s.crashed then(s,31)
 else if(zH d).2≠0 then(s,30)
 else if s.cap<s.log.length+(zH d).1.length then(s,30)
 else if s.isCut=false then({s with log:=s.log++(zH d).1},0)
 else({s with log:=s.log++(zH d).1.take (min s.keep (zH d).1.length).toNat,isCut:=false,keep:=0,crashed:=true},31)
def zdf(s:yl)(keep:Int):yl×Int:=if s.crashed then(s,31)else if keep<0 then(s,2)else({s with isCut:=true,keep:=keep},0)
def zZ(s:yl):yl×List (List UInt8):=({s with log:=s.log.take (xN s.log.length s.log).2,isCut:=false,keep:=0,crashed:=false},(xN s.log.length s.log).1)
abbrev jw:=Nat×Nat×List UInt8
def yn(v:jw):Bool:= !(decide (v.2.1=0)&& !v.2.2.isEmpty)&& decide (v.2.1<=v.1)&& decide (v.2.2.length<=4000)
def yu(v:jw)(b:Nat):jw×Int:=
 if yn v=false∨b<1 then((0,0,[]),2)else if b<=v.1 then((0,0,[]),80)else((b,v.2),0)
def YV(v:jw)(b:Nat)(x:List UInt8):jw×Int:=
 if yn v=false∨b<1∨4000<x.length then((0,0,[]),2)else if b<v.1 then((0,0,[]),80)else((b,b,x),0)
structure xH where
 votes:List (Int×jw)
 known:List (Int×List UInt8)
 length:Nat
def xl:xH:={votes:=[],known:=[],length:=0}
def zR(i:Int):Bool:=decide (1<=i)&& decide (i<=10000)
def zO(p:xH)(i:Int):jw:=(zE i p.votes).getD (0,0,[])
def le8(n:Nat):List UInt8:=le4 n++le4 (n / 4294967296)
def xO(kind:UInt8)(i:Int)(more:List UInt8):List UInt8:=[kind] ++le4 (i.toNat % 4294967296)++more
def zD(p:xH)(i:Int)(b:Nat):xH×jw×List UInt8×Int:=
 if zR i=false then(p,(0,0,[]),[],2)
 else if(yu (zO p i) b).2≠0 then(p,(0,0,[]),[],(yu (zO p i) b).2)
 else({p with votes:=put i (yu (zO p i) b).1 p.votes},(yu (zO p i) b).1,xO 112 i (le8 b),0)
def vO(p:xH)(i:Int)(b:Nat)(x:List UInt8):xH×List UInt8×Int:=
 if zR i=false then(p,[],2)
 else if(YV (zO p i) b x).2≠0 then(p,[],(YV (zO p i) b x).2)
 else({p with votes:=put i (YV (zO p i) b x).1 p.votes},xO 118 i (le8 b++x),0)
def Yj(known:List (Int×List UInt8)):Nat->Nat->Nat
 |0,at_=>at_
 |n+1,at_=>if(zE ((at_:Int)+1) known).isSome/\at_<10000 then Yj known n (at_+1)else at_
def zV(p:xH)(i:Int)(x:List UInt8):xH×List UInt8×Int:=
 if zR i=false∨4000<x.length then(p,[],2)
 else match zE i p.known with
  |some y=>if y≠x then(p,[],91)else(p,[],0)
  |none=>({p with known:=put i x p.known,length:=Yj (put i x p.known) 10000 p.length},xO 100 i x,0)
def jL(s:List UInt8):Option (UInt8×Int×Nat×List UInt8):=
 if s.length<5 then none
 else if 10000<yy ((s.drop 1).take 4)∨zR (yy ((s.drop 1).take 4))=false then none
 else if s.head?=some 100 then(if(s.drop 5).length<=4000 then some (100,yy ((s.drop 1).take 4),0,s.drop 5)else none)
 else if s.head?=some 112∨s.head?=some 118 then
  (if s.length<13 then none
   else if s.head?=some 112/\s.drop 13≠ [] then none
   else if 1<=yy ((s.drop 5).take 4)+4294967296*yy ((s.drop 9).take 4)/\(s.drop 13).length<=4000 then some (s.head?.getD 0,yy ((s.drop 1).take 4),yy ((s.drop 5).take 4)+4294967296*yy ((s.drop 9).take 4),s.drop 13)else none)
 else none
def qh(kind:UInt8)(v:jw)(b:Nat)(x:List UInt8):jw:=if kind=118/\v.2.1<=b then(max v.1 b,b,x)else(max v.1 b,v.2)
def yL(p:xH)(s:List UInt8):xH:=
 match jL s with
 |none=>p
 |some (k,i,b,x)=>if k=100 then(zV p i x).1 else if qh k (zO p i) b x=zO p i then p else {p with votes:=put i (qh k (zO p i) b x) p.votes}
def vY(s:List UInt8):zA×Nat:=
 if s.length<9 then(((0,0),[]),0)
 else if 1000<yy ((s.drop 5).take 4)∨s.length<9+yy ((s.drop 5).take 4)then(((0,0),[]),0)
 else if zx ((((s.head?.getD 0).toNat:Int),yy ((s.drop 1).take 4)),(s.drop 9).take (yy ((s.drop 5).take 4)))=false then(((0,0),[]),0)
 else(((((s.head?.getD 0).toNat:Int),yy ((s.drop 1).take 4)),(s.drop 9).take (yy ((s.drop 5).take 4))),9+yy ((s.drop 5).take 4))
def yX:Nat->List UInt8->Option (List zA)
 |0,s=>if s=[] then some [] else none
 |n+1,s=>if(vY s).2=0 then none else(yX n (s.drop (vY s).2)).map ((vY s).1::·)
def jR(s:List UInt8):List zA×Int:=
 match s with
 | []=>([],101)
 |b::r=>if 64<b.toNat then([],101)else match yX b.toNat r with|none=>([],101)|some l=>(l,0)
def jz(s:List UInt8):jH×Int:=
 if s.length<6∨4000<s.length then(⟨0,0,0,[]⟩,140)
 else if(jR (s.drop 6)).2≠0 then(⟨0,0,0,[]⟩,140)
 else if(jC ⟨(s.head?.getD 0).toNat,yy ((s.drop 1).take 4),((s.drop 5).head?.getD 0).toNat,(jR (s.drop 6)).1⟩)=(s,0)then(⟨(s.head?.getD 0).toNat,yy ((s.drop 1).take 4),((s.drop 5).head?.getD 0).toNat,(jR (s.drop 6)).1⟩,0)
 else(⟨0,0,0,[]⟩,140)
structure xr where
 waits:List (MId×zA)
 done:List (MId×Unit)
def Ze:xr:={waits:=[],done:=[] }
def zdB(p:xr)(m:zA):xr×Int:=
 if zx m=false then(p,100)
 else if(zE m.1 p.waits).isSome∨(zE m.1 p.done).isSome then(p,0)
 else if 1000<=p.waits.length then(p,120)
 else({p with waits:=put m.1 m p.waits},0)
def yY(p:xr)(m:zA):xr:=if(zE m.1 p.done).isSome then p else {waits:=del m.1 p.waits,done:=put m.1 () p.done}
def JH(p:xr)(l:List zA):xr:=if l.all zx then l.foldl yY p else p
def ltM(a b:zA):Bool:=decide (a.1.1<b.1.1)||(decide (a.1.1=b.1.1)&& decide (a.1.2<=b.1.2))
def zj2(m:zA):List zA->List zA
 | []=>[m]
 |x::l=>if ltM m x then m::x::l else x::zj2 m l
def Zf(l:List zA):List zA:=l.foldr zj2 []
def ZI(p:xr)(most:Nat):List zA:=(Zf (p.waits.map (·.2))).take most
structure zr where
 id:Int
 version:Int
 bad:List Int
 store:yl
 pax:xH
 loc:zP
 pool:xr
 acc:List zA
 offered:Nat
 applied:Nat
 wanted:Int
 down:Bool
def vZ(n:zr)(s:StD):zr:={n with pax:=xl,loc:=zeT n.version s,pool:=Ze,acc:=[],offered:=0,applied:=0,wanted:=0}
def j7(n:zr)(ofPart:Bool)(d:List UInt8):zr×Int:=
 ({n with store:=(zT n.store d).1,down:=n.down||decide ((zT n.store d).2=31)||(ofPart && decide ((zT n.store d).2≠0))},(zT n.store d).2)
def jE:Nat->zr->zr
 |0,n=>n
 |k+1,n=>match n.acc[n.offered]? with
  |none=>n
  |some m=>if(zdB n.pool m).2=0 then jE k {n with pool:=(zdB n.pool m).1,offered:=n.offered+1} else {n with pool:=(zdB n.pool m).1}
def ZJ(n:zr):Int:=if n.down then 170 else 0
def zv(n:zr)(d:List UInt8):zr×zA×Int:=
 if n.down then(n,((0,0),[]),170)
 else if zx ((n.id,n.acc.length+1),d)=false then(n,((0,0),[]),100)
 else if(j7 n false ([109] ++(j0 [((n.id,n.acc.length+1),d)]).1)).2≠0 then((j7 n false ([109] ++(j0 [((n.id,n.acc.length+1),d)]).1)).1,((0,0),[]),(j7 n false ([109] ++(j0 [((n.id,n.acc.length+1),d)]).1)).2)
 else(jE (n.acc.length+1) {(j7 n false ([109] ++(j0 [((n.id,n.acc.length+1),d)]).1)).1 with acc:=n.acc++ [((n.id,n.acc.length+1),d)] },((n.id,n.acc.length+1),d),0)
def zC(n:zr)(i:Int)(b:Nat):zr×jw×Int:=
 if n.down then(n,(0,0,[]),170)
 else if(zD n.pax i b).2.2.2≠0 then(n,(0,0,[]),(zD n.pax i b).2.2.2)
 else if(j7 {n with pax:=(zD n.pax i b).1} true (zD n.pax i b).2.2.1).2≠0 then((j7 {n with pax:=(zD n.pax i b).1} true (zD n.pax i b).2.2.1).1,(0,0,[]),(j7 {n with pax:=(zD n.pax i b).1} true (zD n.pax i b).2.2.1).2)
 else((j7 {n with pax:=(zD n.pax i b).1} true (zD n.pax i b).2.2.1).1,(zD n.pax i b).2.1,0)
def yS(n:zr)(i:Int)(b:Nat)(x:List UInt8):zr×Int:=
 if n.down then(n,170)
 else if(vO n.pax i b x).2.2≠0 then(n,(vO n.pax i b x).2.2)
 else j7 {n with pax:=(vO n.pax i b x).1} true (vO n.pax i b x).2.1
def qi(n:zr)(e:jH):Int:=
 if e.kind=2 then e.ver else if e.kind=3 then(if 1<n.loc.fold.eras.length then((n.loc.fold.eras[n.loc.fold.eras.length - 2]?).getD (0,0,0)).2.1 else 0)else 0
def v7(n:zr)(e:jH):zr×List zA:=
 let R:=yk n.loc e (n.bad.contains (qi n e))
 let p:=JH (JH n.pool R.2.1) R.1.held
 (jE (n.acc.length+1) {n with loc:=R.1,wanted:=if vC R.1.fold.eras=vC n.loc.fold.eras then n.wanted else 0,pool:=p},R.2.1)
def jp:Nat->zr->zr×List zA
 |0,n=>(n,[])
 |k+1,n=>match zE ((n.applied:Int)+1) n.pax.known with
  |none=>(n,[])
  |some x=>
   if(jz x).2≠0 then jp k {n with applied:=n.applied+1}
   else((jp k (v7 {n with applied:=n.applied+1} (jz x).1).1).1,(v7 {n with applied:=n.applied+1} (jz x).1).2++(jp k (v7 {n with applied:=n.applied+1} (jz x).1).1).2)
def jg(n:zr)(i:Int)(x:List UInt8):zr×List zA×Int:=
 if n.down then(n,[],170)
 else
  let r:=zV n.pax i x
  if r.2.2≠0 then(n,[],r.2.2)
  else if r.2.1=[] then((jp 10001 {n with pax:=r.1}).1,(jp 10001 {n with pax:=r.1}).2,0)
  else
   let q:=j7 {n with pax:=r.1} true r.2.1
   if q.2≠0 then(q.1,[],q.2)else((jp 10001 q.1).1,(jp 10001 q.1).2,0)
def Jy(known:List (Int×List UInt8)):Nat->Nat->Nat
 |0,i=>i
 |k+1,i=>if(zE (i:Int) known).isSome then Jy known k (i+1)else i
def yM(n:zr):Nat:=Jy n.pax.known 10001 (n.applied+1)
def ZK(e:jH):List UInt8×Bool:=((jC e).1,decide ((jC e).2=0))
def yv(era:ZA):List zA->List zA->List UInt8×Bool->List UInt8×Bool
 |_,[],r=>r
 |p,m::l,r=>if(ZK ⟨1,era.1,0,p++ [m]⟩).2 then yv era (p++ [m]) l (ZK ⟨1,era.1,0,p++ [m]⟩)else r
def jX(n:zr):List UInt8×Bool:=
 if n.down then([],false)
 else if n.loc.blk then ZK ⟨3,(vC n.loc.fold.eras).1,0,[]⟩
 else if n.wanted≠0/\ye (vC n.loc.fold.eras).2.1 n.wanted=0 then ZK ⟨2,(vC n.loc.fold.eras).1,n.wanted,[]⟩
 else yv (vC n.loc.fold.eras) [] (ZI n.pool (if(if known (vC n.loc.fold.eras).2.1 then(if(vC n.loc.fold.eras).2.1=1 then(1:Int)else 2)else 0)=1 then 1 else 8)) ([],false)
def JI(n:zr)(v:Int):zr×Int:=
 if n.down then(n,170)else if ye (vC n.loc.fold.eras).2.1 v≠0 then(n,ye (vC n.loc.fold.eras).2.1 v)else({n with wanted:=v},0)
def J4(n:zr)(k:Int):zr×Int:=if n.down then(n,170)else({n with store:=(zdf n.store k).1},(zdf n.store k).2)
def vU(n:zr):zr×Int:=if n.down then(n,170)else({n with down:=true},0)
def yo(n:zr)(r:List UInt8):zr:=
 match r with
 | []=>n
 |k::d=>if k=109/\(jR d).2=0/\(jR d).1.length=1 then {n with acc:=n.acc++(jR d).1} else {n with pax:=yL n.pax r}
def jt(n:zr)(s:StD):zr:=
 let R:=zZ n.store
 let m:=R.2.foldl yo (vZ {n with store:=R.1} s)
 {(jE ((jp 10001 m).1.acc.length+1) (jp 10001 m).1)with down:=false}
theorem vl(n:Nat):yy (le4 n)=n % 4294967296:=by
 unfold yy;rw [if_pos (jd n)];unfold le4;simp only [List.foldr_cons,List.foldr_nil,UInt8.toNat_ofNat'];omega
theorem Zg(n:Nat):(le4 n).length=4:=rfl
theorem zaG(l:List UInt8):(Zb l).length=l.length+4:=by simp [Zb,Zg]
theorem Xi(l:List UInt8):xU (Zb l)=some l:=by
 unfold xU;rw [if_neg (by rw [zaG];omega)];have h1:(Zb l).length - 4=l.length:=by rw [zaG];omega
 rw [h1];have h2:(Zb l).take l.length=l:=by unfold Zb;rw [List.take_left'];rfl
 have h3:(Zb l).drop l.length=le4 (zhJ l):=by unfold Zb;rw [List.drop_left'];rfl
 rw [h2,h3,if_pos rfl]
theorem qj {d:List UInt8}(h:d.length<=4096):zH d=(Zb ([52] ++le4 d.length++d),0):=by unfold zH;rw [if_neg (by omega)]
theorem jS {d:List UInt8}(h:d.length<=4096):(zH d).1.length=d.length+9:=by
 rw [qj h,zaG];simp [Zg];omega
theorem Xj {d:List UInt8}(h:d.length<=4096)(k:Nat)(rest:List UInt8)(hk:5<=k):(((zH d).1++rest).take k).head?=some 52/\((((zH d).1++rest).take k).drop 1).take 4=le4 d.length:=by
 rw [qj h];obtain⟨m,rfl⟩:∃m,k=m+5:=⟨k - 5,by omega⟩;unfold Zb le4;simp
theorem zbP {d:List UInt8}(h:d.length<=4096)(rest:List UInt8):jy ((zH d).1++rest)=(d,9+d.length):=by
 have hl:=jS h;have hh:=Xj h ((zH d).1++rest).length rest (by rw [N1];omega);rw [List.take_length] at hh;have hg:yy ((((zH d).1++rest).drop 1).take 4)=d.length:=by rw [hh.2,vl];omega
 unfold jy;rw [if_neg (by rw [N1];omega),if_neg (by rw [hh.1];simp),hg,if_neg (by omega),if_neg (by rw [N1];omega)];have ht:((zH d).1++rest).take (9+d.length)=(zH d).1:=by rw [List.take_left'];omega
 rw [ht,qj h,Xi];simp [le4]
theorem zfU {d:List UInt8}(h:d.length<=4096)(k:Nat)(hk:k<(zH d).1.length):(jy ((zH d).1.take k)).2=0:=by
 have hl:=jS h;unfold jy;have aa:((zH d).1.take k).length=k:=by rw [N7];omega
 by_cases h9:k<9
 ·rw [if_pos (by rw [aa];exact h9)]
 have hh:=Xj h k [] (by omega)
 rw [List.append_nil] at hh;have hg:yy ((((zH d).1.take k).drop 1).take 4)=d.length:=by rw [hh.2,vl];omega
 rw [if_neg (by rw [aa];exact h9),if_neg (by rw [hh.1];simp),hg,if_neg (by omega),if_pos (by rw [aa];omega)]
theorem ZL:(jy []).2=0:=rfl
def recs(l:List (List UInt8)):List UInt8:=l.flatMap λd=>(zH d).1
def zeV(l:List (List UInt8)):Prop:=∀d∈l,d.length<=4096
theorem Xk(l:List (List UInt8))(d:List UInt8):recs (l++ [d])=recs l++(zH d).1:=by simp [recs]
theorem zeW {l:List (List UInt8)}(h:zeV l):9*l.length<=(recs l).length:=by
 induction l with
 |nil=>simp [recs]
 |cons d l ih=>
  have h1:=jS (h d (List.mem_cons_self ..));have h2:=ih (λx hx=>h x (U7 _ hx));have h3:recs (d::l)=(zH d).1++recs l:=rfl;rw [h3,N1,List.length_cons];omega
theorem Xl {tail:List UInt8}(ht:(jy tail).2=0):∀(l:List (List UInt8)) (n:Nat),zeV l->l.length<n->xN n (recs l++tail)=(l,(recs l).length)
 | [],n+1,_,_=>by
   have h3:recs [] ++tail=tail:=rfl;rw [h3];unfold xN;rw [if_pos ht];rfl
 | [],0,_,h=>by simp at h
 |d::l,0,_,h=>by simp at h
 |d::l,n+1,hok,hn=>by
  have h1:=hok d (List.mem_cons_self ..);have h3:recs (d::l)++tail=(zH d).1++(recs l++tail):=by simp [recs]
  have hf:=zbP h1 (recs l++tail);have hd:((zH d).1++(recs l++tail)).drop (9+d.length)=recs l++tail:=by rw [List.drop_left'];have:=jS h1;omega
  rw [h3];unfold xN;rw [hf];simp only;rw [if_neg (by omega),hd,Xl ht l n (λx hx=>hok x (U7 _ hx)) (by simp at hn;omega)];have h4:recs (d::l)=(zH d).1++recs l:=rfl;rw [h4,N1,jS h1];simp;omega
def zbQ(s:yl)(l:List (List UInt8)):Prop:=zeV l/\∃tail,s.log=recs l++tail/\(jy tail).2=0/\(s.crashed=false->tail=[])
theorem Yk(cap:Int):zbQ (Zd cap) []:=⟨(λd hd=>absurd hd (by simp)),[],rfl,ZL,λ_=>rfl⟩
theorem zfV {d:List UInt8}(h:(zH d).2=0):d.length<=4096:=by
 unfold zH at h
 split at h
 ·simp at h
 omega
theorem Z5 {s:yl}{l:List (List UInt8)}(h:zbQ s l)(d:List UInt8):
 ((zT s d).2=0/\s.crashed=false/\(zT s d).1.crashed=false/\zbQ (zT s d).1 (l++ [d]))∨
 ((zT s d).2=31/\(zT s d).1.crashed=true/\(zbQ (zT s d).1 l∨zbQ (zT s d).1 (l++ [d])))∨
 ((zT s d).2=30/\(zT s d).1=s):=by
 obtain⟨ae,ad,hl,ht,hc⟩:=h;unfold zT
 split
 ·rename_i hcr
  exact .inr (.inl ⟨rfl,hcr,.inl ⟨ae,ad,hl,ht,hc⟩⟩)
 rename_i hcr
 have aa:s.crashed=false:=by simpa using hcr
 have af:=hc aa;subst af;rw [List.append_nil] at hl
 split
 ·exact .inr (.inr ⟨rfl,rfl⟩)
 rename_i hr
 have hd:=zfV (Decidable.not_not.1 hr)
 have ac:zeV (l++ [d]):=by
  intro x hx
  rcases List.mem_append.1 hx with h|h
  ·exact ae x h
  simp at h;rw [h];exact hd
 split
 ·exact .inr (.inr ⟨rfl,rfl⟩)
 split
 ·refine .inl ⟨rfl,aa,aa,ac,[],?_,ZL,λ_=>rfl⟩
  show s.log++_=_
  rw [hl,Xk,List.append_nil]
 refine .inr (.inl ⟨rfl,rfl,?_⟩)
 rcases Nat.lt_or_ge (min s.keep ((zH d).1.length:Int)).toNat (zH d).1.length with h|h
 ·refine .inl ⟨ae,(zH d).1.take (min s.keep ((zH d).1.length:Int)).toNat,?_,zfU hd _ h,λh=>by cases h⟩
  show s.log++_=_
  rw [hl]
 refine .inr ⟨ac,[],?_,ZL,λh=>by cases h⟩
 show s.log++_=_
 rw [hl,Xk,List.take_of_length_le h,List.append_nil]
theorem zj3 {s:yl}{l:List (List UInt8)}(h:zbQ s l)(k:Int):zbQ (zdf s k).1 l/\(zdf s k).1.crashed=s.crashed:=by
 unfold zdf
 split
 ·exact⟨h,rfl⟩
 split
 ·exact⟨h,rfl⟩
 exact⟨h,rfl⟩
theorem Vt {s:yl}{l:List (List UInt8)}(h:zbQ s l):(zZ s).2=l/\zbQ (zZ s).1 l/\(zZ s).1.crashed=false:=by
 obtain⟨ac,ad,hl,ht,hc⟩:=h;have aa:=zeW ac
 have hr:xN s.log.length s.log=(l,(recs l).length):=by
  cases hll:l with
  |nil=>
   cases hs:s.log with
   |nil=>rfl
   |cons b r=>
    have h1:=Xl ht l (b::r).length ac (by rw [hll];simp);rw [← hl,hs,hll] at h1;exact h1
  |cons x y=>
   rw [← hll];have h1:=Xl ht l s.log.length ac (by rw [hl,N1];rw [hll] at aa⊢;simp at aa⊢;omega);rw [← hl] at h1;exact h1
 unfold zZ;rw [hr];refine⟨rfl,⟨ac,[],?_,ZL,λ_=>rfl⟩,rfl⟩
 show s.log.take (recs l).length=recs l++ []
 rw [hl,List.take_left',List.append_nil];rfl
theorem yE {K V:Type} [DecidableEq K](k k':K)(v:V):∀l:List (K×V),zE k' (put k v l)=if k'=k then some v else zE k' l
 | []=>by unfold put zE;split<;>simp_all [zE]
 |(q,u)::l=>by
  have ih:=yE k k' v l;unfold put
  by_cases h:k=q
  ·subst h
   rw [if_pos rfl]
   by_cases h2:k'=k
   ·subst h2;simp [zE]
   simp [zE,h2]
  rw [if_neg h]
  by_cases h2:k'=q
  ·subst h2
   rw [if_neg (λe=>h e.symm)];simp [zE]
  rw [zE,if_neg h2,ih]
  conv=>rhs;rw [zE,if_neg h2]
theorem zeX {K V:Type} [DecidableEq K] {k:K}{v:V} :∀ {l:List (K×V)},zE k l=some v->put k v l=l
 | [],h=>by cases h
 |(q,u)::l,h=>by
  unfold zE at h;unfold put
  by_cases hq:k=q
  ·subst hq;rw [if_pos rfl] at h⊢;cases h;rfl
  rw [if_neg hq] at h⊢;rw [zeX h]
theorem qE(n:Nat):(le8 n).length=8:=rfl
theorem qN {i:Int}(h:zR i=true):1<=i/\i<=10000:=by simpa [zR] using h
theorem Xm(kind:UInt8){i:Int}(h:zR i=true)(more:List UInt8):(xO kind i more).head?=some kind/\yy (((xO kind i more).drop 1).take 4)=i.toNat/\(xO kind i more).drop 5=more/\(xO kind i more).length=5+more.length:=by
 have hp:=qN h;refine⟨rfl,?_,rfl,by unfold xO;simp [Zg];omega⟩;have:((xO kind i more).drop 1).take 4=le4 (i.toNat % 4294967296):=rfl;rw [this,vl];omega
theorem QW(kind:UInt8){i:Int}(b:Nat)(hb:b<18446744073709551616)(x:List UInt8):yy (((xO kind i (le8 b++x)).drop 5).take 4)+4294967296*yy (((xO kind i (le8 b++x)).drop 9).take 4)=b/\(xO kind i (le8 b++x)).drop 13=x:=by
 have h1:((xO kind i (le8 b++x)).drop 5).take 4=le4 b:=rfl;have h2:((xO kind i (le8 b++x)).drop 9).take 4=le4 (b / 4294967296):=rfl;rw [h1,h2,vl,vl];exact⟨by omega,rfl⟩
theorem zbR {i:Int}(h:zR i=true){x:List UInt8}(hx:x.length<=4000):jL (xO 100 i x)=some (100,i,0,x):=by
 have hp:=qN h;obtain⟨h1,h2,h3,h4⟩:=Xm 100 h x;have hi:((i.toNat:Nat):Int)=i:=Int.toNat_of_nonneg (by omega);unfold jL;rw [if_neg (by omega),h2,hi,if_neg (by rw [h];simp;omega),if_pos h1,h3,if_pos hx]
theorem zaH {i:Int}(h:zR i=true){b:Nat}(hb:b<18446744073709551616)(h0:1<=b):jL (xO 112 i (le8 b))=some (112,i,b,[]):=by
 have hp:=qN h;obtain⟨h1,h2,h3,h4⟩:=Xm 112 h (le8 b);obtain⟨h5,h6⟩:=QW 112 (i:=i) b hb [];rw [List.append_nil] at h5 h6;have hi:((i.toNat:Nat):Int)=i:=Int.toNat_of_nonneg (by omega);have h8:=qE b;unfold jL;rw [if_neg (by omega),h2,hi,if_neg (by rw [h];simp;omega),h1,if_neg (by simp),if_pos (.inl rfl),if_neg (by omega),h6,if_neg (by simp),h5,if_pos ⟨h0,by simp⟩];rfl
theorem zfW {i:Int}(h:zR i=true){b:Nat}(hb:b<18446744073709551616)(h0:1<=b){x:List UInt8}(hx:x.length<=4000):jL (xO 118 i (le8 b++x))=some (118,i,b,x):=by
 have hp:=qN h;obtain⟨h1,h2,h3,h4⟩:=Xm 118 h (le8 b++x);obtain⟨h5,h6⟩:=QW 118 (i:=i) b hb x;have hi:((i.toNat:Nat):Int)=i:=Int.toNat_of_nonneg (by omega);have h8:=qE b;rw [N1] at h4;unfold jL;rw [if_neg (by omega),h2,hi,if_neg (by rw [h];simp;omega),h1,if_neg (by simp),if_pos (.inr rfl),if_neg (by omega),h6,if_neg (by simp),h5,if_pos ⟨h0,hx⟩];rfl
theorem zaI {p:xH}{i:Int}{b:Nat}(hb:b<18446744073709551616)(h:(zD p i b).2.2.2=0):yL p (zD p i b).2.2.1=(zD p i b).1/\(zD p i b).2.2.1=xO 112 i (le8 b)/\zR i=true/\1<=b/\(zO p i).1<b/\(zD p i b).1={p with votes:=put i (b,(zO p i).2) p.votes} :=by
 unfold zD at h⊢
 split at h
 ·simp at h
 rename_i hi
 rw [if_neg hi];have aa:zR i=true:=by simpa using hi
 split at h
 ·rename_i h1;exact absurd h h1
 rename_i h1
 rw [if_neg h1]
 have hv:(yu (zO p i) b)=((b,(zO p i).2),0)/\1<=b/\(zO p i).1<b:=by
  unfold yu at h1⊢
  split at h1
  ·simp at h1
  rename_i h2
  rw [if_neg h2]
  split at h1
  ·simp at h1
  rename_i h3
  rw [if_neg h3];exact⟨rfl,by omega,by omega⟩
 simp only;rw [hv.1];refine⟨?_,by first|exact rfl|exact trivial,aa,hv.2.1,hv.2.2,by first|exact rfl|exact trivial⟩;unfold yL;rw [zaH aa hb hv.2.1];simp only;rw [if_neg (by decide)]
 have hr:qh 112 (zO p i) b []=(b,(zO p i).2):=by
  unfold qh;rw [if_neg (by simp)];rw [Nat.max_eq_right (by omega)]
 rw [hr,if_neg (λe=>by have:=congrArg Prod.fst e;simp at this;omega)]
theorem zfX {p:xH}{i:Int}{b:Nat}{x:List UInt8}(hb:b<18446744073709551616)(h:(vO p i b x).2.2=0):yL p (vO p i b x).2.1=(vO p i b x).1/\zR i=true/\1<=b/\(zO p i).1<=b/\x.length<=4000/\(vO p i b x).1={p with votes:=put i (b,b,x) p.votes} /\(vO p i b x).2.1=xO 118 i (le8 b++x):=by
 unfold vO at h⊢
 split at h
 ·simp at h
 rename_i hi
 rw [if_neg hi];have ac:zR i=true:=by simpa using hi
 split at h
 ·rename_i h1;exact absurd h h1
 rename_i h1
 rw [if_neg h1]
 have hv:(YV (zO p i) b x)=((b,b,x),0)/\1<=b/\(zO p i).1<=b/\x.length<=4000/\(zO p i).2.1<=(zO p i).1:=by
  unfold YV at h1⊢
  split at h1
  ·simp at h1
  rename_i h2
  rw [if_neg h2]
  have aa:yn (zO p i)=true/\1<=b/\x.length<=4000:=by
   refine⟨?_,by omega,by omega⟩
   cases hvo:yn (zO p i)
   ·exact absurd (.inl hvo) h2
   rfl
  split at h1
  ·simp at h1
  rename_i h3
  rw [if_neg h3]
  have h4:(zO p i).2.1<=(zO p i).1:=by
   have:=aa.1;unfold yn at this;simp only [Bool.and_eq_true,decide_eq_true_eq] at this;exact this.1.2
  exact⟨rfl,aa.2.1,by omega,aa.2.2,h4⟩
 simp only;rw [hv.1];refine⟨?_,ac,hv.2.1,hv.2.2.1,hv.2.2.2.1,by first|exact rfl|exact trivial,by first|exact rfl|exact trivial⟩;unfold yL;rw [zfW ac hb hv.2.1 hv.2.2.2.1];simp only;rw [if_neg (by decide)]
 have hr:qh 118 (zO p i) b x=(b,b,x):=by
  unfold qh;rw [if_pos ⟨rfl,by omega⟩,Nat.max_eq_right (by omega)]
 rw [hr]
 split
 ·rename_i heq
  have hl:zE i p.votes=some (b,b,x):=by
   unfold zO at heq
   cases hlk:zE i p.votes with
   |none=>rw [hlk] at heq;simp at heq;omega
   |some u=>rw [hlk] at heq;simp at heq;rw [heq]
  show p={p with votes:=put i (b,b,x) p.votes}
  rw [zeX hl]
 rfl
theorem zdC {p:xH}{i:Int}{x:List UInt8}(h:(zV p i x).2.2=0)(hr:(zV p i x).2.1≠ []):yL p (zV p i x).2.1=(zV p i x).1/\zE i p.known=none/\zR i=true/\x.length<=4000/\(zV p i x).1.known=put i x p.known/\(zV p i x).1.votes=p.votes/\(zV p i x).2.1=xO 100 i x:=by
 have hq:(zV p i x).2.1=xO 100 i x/\zR i=true/\x.length<=4000/\zE i p.known=none/\(zV p i x).1={p with known:=put i x p.known,length:=Yj (put i x p.known) 10000 p.length} :=by
  unfold zV at h hr⊢
  split at h
  ·simp at h
  rename_i h1
  rw [if_neg h1] at hr⊢
  have aa:zR i=true/\x.length<=4000:=by
   refine⟨?_,by omega⟩
   cases hi:zR i
   ·exact absurd (.inl hi) h1
   rfl
  cases hl:zE i p.known with
  |none=>exact⟨rfl,aa.1,aa.2,rfl,rfl⟩
  |some y=>
   rw [hl] at hr;simp only at hr
   split at hr<;>simp at hr
 obtain⟨h1,h2,h3,h4,h5⟩:=hq;refine⟨?_,h4,h2,h3,by rw [h5],by rw [h5],h1⟩;rw [h1];unfold yL;rw [zbR h2 h3];simp
theorem zfY {p:xH}{i:Int}{x:List UInt8}(h:(zV p i x).2.2≠0∨(zV p i x).2.1=[]):(zV p i x).1=p:=by
 unfold zV at h⊢
 by_cases h1:zR i=false∨4000<x.length
 ·rw [if_pos h1]
 rw [if_neg h1] at h⊢
 cases hl:zE i p.known with
 |none=>rw [hl] at h;simp [xO] at h
 |some y=>simp only;split<;>rfl
end
open Go Go.RowKit Go.Shelf Go.Extern.Stop Go.Stop Go.Extern
theorem zmc {a b:List UInt8} :((bs a).toList==(bs b).toList)=decide (a=b):=by
 rw [yQ,yQ]
 by_cases h:a=b
 ·simp [h]
 simp [h]
theorem zh2(a b:zA)(w:World):(binOp .neq 78 (y7 a) (y7 b)).run prog w=.ok (.bool (decide (a≠b))) w:=by
 obtain⟨⟨i,c⟩,d⟩:=a;obtain⟨⟨i',c'⟩,d'⟩:=b;unfold y7;rw [run_neq_struct];simp [go_sem,zmc]
 by_cases h1:i=i'<;>by_cases h2:c=c'<;>by_cases h3:d=d'<;>simp [h1,h2,h3] <;>omega
theorem zll(a b:ZA)(w:World):(binOp .neq 197 (Yg a) (Yg b)).run prog w=.ok (.bool (decide (a≠b))) w:=by
 obtain⟨i,c,d⟩:=a;obtain⟨i',c',d'⟩:=b;unfold Yg;rw [run_neq_struct];simp [go_sem]
 by_cases h1:i=i'<;>by_cases h2:c=c'<;>by_cases h3:d=d'<;>simp [h1,h2,h3] <;>omega
