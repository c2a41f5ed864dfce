/- PARTS OF THE PROOF. -/
import Derived.Test.YtofppfoioodblaaGreatDoorTT02
import Derived.Test.YtofppfoioodblaaGreatDoorTT08
set_option maxRecDepth 8000
set_option maxHeartbeats 4000000
open Go.Proofs.Tryz
namespace Go.Proofs.YtofppfoioodblaaGreatDoor
section
open Go Go.RowKit Go.Shelf Go.Extern.Stop Go.Stop Go.Extern
attribute [local go_sem] Oper.semAt_some zv zm
theorem zq.grownNew {t:List Nat}{ow o1:Own}{W W1 W2:World}{row:Option Nat}(h:zq t ow W o1 W1)(hg:W1.grownBy W2 row)(hr:∀k,row=some k->W.heap.size<=k):zq t ow W o1 W2:=
 ⟨h.mod.trans (Mod.grown (X:=λk=>row=some k) hg (λ_ h=>h)) (λ_ _ e=>e) (λk hk e=>by have:=hr k e;omega),h.agree⟩
theorem zq.cut {t:List Nat}{ow o1:Own}{W W1:World}(h:zq t ow W o1 W1):zq t ow W (o1.cut W1) W1:=⟨h.mod,λk hk=>(Own.cut_old (Nat.lt_of_lt_of_le hk h.size)).trans (h.agree k hk)⟩
theorem yK.cutHere {t:List Nat}{A:Own->World->Prop}(hA:yK t A){ow:Own}{w:World}(h:A ow w):A (ow.cut w) w:=hA.cut h (N2 _ _)
theorem zq.free2 {t:List Nat}{ow ow2:Own}{w W w2:World}(h:zq t (ow.cut w) W ow2 w2){k:Nat}(hk:k<w.heap.size)(ho:ow k=[])(hs:w.heap.size<=W.heap.size):ow2 k=[]:=
 (h.agree k (Nat.lt_of_lt_of_le hk hs)).trans ((Own.cut_old hk).trans ho)
def zgy(bb:Nat)(t:List Nat)(ow:Own)(w:World)(R:vw×List zy)(e:Ending)(w':World):Prop:=
 ∃v ow',e=.returned v/\zq t ow w ow' w'/\jR bb R.1 t ow' w'/\Row w' 78 3 v R.2.length (R.2.flatMap zh)/\(∀g,v.ownBlock=some g->w.heap.size<=g/\ow' g=[])
def zjT(bb:Nat)(t:List Nat)(ow:Own)(w:World)(b:vw)(l:List zy)(k:Nat)(v:Value)(W:World):Prop:=
 k<=l.length/\∃ow1,zq t ow w ow1 W/\jR bb (zV b (l.take k)).1 t ow1 W/\Row W 78 3 v (zV b (l.take k)).2.length ((zV b (l.take k)).2.flatMap zh)/\(∀g,v.ownBlock=some g->w.heap.size<=g/\ow1 g=[])
theorem zcs(B bb:Nat)(b:vw)(t:List Nat)(ht:t≠ [])(ow:Own)(mv:Value)(l:List zy)(w:World)(hB:w.cell? ⟨B,0,none⟩=some (.pointer (some ⟨bb,0,none⟩)))(hBt:¬Sub t (ow B))
 (hb:jR bb b t ow w) (hm:x8 w mv l) (hmt:∀a l c,mv=.slice (some a) l c->¬Sub t (ow a.block)) (hl:qz b+l.length<=536870912):
 Calls prog 335 #[.pointer (some ⟨B,0,none⟩),mv] w (zgy bb t ow w (zV b l)):=by
 have hok:=hb.1;obtain⟨a,c,rfl⟩:=hm.shape;have hBl:=jH hB
 go_enter func335,ntmps335
 go_wp2
 go_loopw [5,12] (λp5 p12 wr=>∃k:Nat,p12=.int .i64 k/\zjT bb t ow w b l k p5 wr) (λ_ p12 _=>l.length - (intOf p12).toNat)
 case atStart=>exact⟨0,rfl,Nat.zero_le _,ow,zq.refl _ _ _,hb,z7 _ _ _,by simp [Value.ownBlock]⟩
 case round=>
  obtain⟨k,rfl,hk,ow1,hs1,hb1,hR1,hn1⟩:=hrel
  by_cases hlt:k<l.length
  ·obtain⟨x,hx⟩:∃x,l[k]?=some x:=⟨_,N3 hlt⟩
   rcases hm.2 with⟨h,h'⟩|⟨mb,off,cap,h,hc, -⟩
   ·omega
   cases h
   have hm1:=hm.step hs1 hmt
   have hcell:∀j,j<3->wr.cell? ⟨mb,off+(k*3+j),none⟩=(zh x)[j]?:=λj hj=>by
    have h1:=xG l k x hx j hj
    rcases hm1.2 with⟨h, -⟩|⟨mb',off',cap',h, -,hr⟩
    ·cases h
    ·cases h
     cases hu:(zh x)[j]? with
     |none=>simp [zh] at hu;omega
     |some u=>exact hr _ u (h1.trans hu)
   have c0:wr.cell? ⟨mb,off+k*3,none⟩=(zh x)[0]?:=hcell 0 (by omega);have c1:wr.cell? ⟨mb,off+k*3+1,none⟩=(zh x)[1]?:=hcell 1 (by omega);have c2:wr.cell? ⟨mb,off+k*3+2,none⟩=(zh x)[2]?:=hcell 2 (by omega);have htk:l.take (k+1)=l.take k++ [x]:=by rw [List.take_add_one,hx];rfl
   have hdn:=YL b (l.take k) x;rw [← htk] at hdn;have hok1:=qn hok (l.take k);have hlen1:=VC hok (l.take k);rw [N7] at hok1 hlen1;obtain⟨⟨i,cc⟩,d⟩:=x;simp only [zh,List.getElem?_cons_zero,List.getElem?_cons_succ] at c0 c1 c2;have eB:wr.cell? ⟨B,0,none⟩=some (.pointer (some ⟨bb,0,none⟩)):=(hs1.cell hBl hBt).trans hB;have hBl1:=jH eB;have hB1t:¬Sub t (ow1 B):=by rw [hs1.agree B hBl];exact hBt
   clear hcell hm1;replace hdn:=hid hdn;replace htk:=hid htk;replace hx:=hid hx;replace hn1:=hid hn1;replace hb1:=hid hb1;replace hmt:=hid hmt;go_wp2;clear c0 c1 c2;obtain⟨W1,hW1⟩:∃W1,W1=(wr.alloc (.cells #[.int .i64 i,.int .u32 cc,.string (bs d)] 78)).drew:=⟨_,rfl⟩;have hbw1:Below wr.heap.size wr W1:=by rw [hW1];exact pbx
   have kx:Blk W1 wr.heap.size #[.int .i64 i,.int .u32 cc,.string (bs d)] 78:=by rw [hW1];exact bkx
   have eB1:=(hbw1.cell hBl1).trans eB;have hsz1:W1.heap.size=wr.heap.size+1:=by rw [hW1];simp
   refine zd [O 0,O 1,O 2,O 3,O 4,E 5,O 6,O 7,O 8,O 9,O 10] none (λw'=>Blk w' wr.heap.size #[.int .i64 i,.int .u32 cc,.string (bs d)] 78/\w'.cell? ⟨B,0,none⟩=some (.pointer (some ⟨bb,0,none⟩))/\True) (by kernel_rfl) (by kernel_rfl) (by rw [← hW1];exact⟨kx,eB1,trivial⟩) ?_;rw [← hW1];clear hW1 eB
   (repeat (refine za (v:=?_) rfl rfl (λw' h=>?_) (λK k=>?_);rotate_left;obtain⟨f1,f2,_⟩:=h;have e1:=f1.cell;go_simp;(try with_reducible rfl);go_simp;refine k _ ?_;clear k K))
   refine zc rfl (λK hK=>?_);have htake:=ziu bb (zV b (l.take k)).1 t ht (ow1.cut wr) ((i,cc),d) W1 ((jR.loc bb _ t).cut hb1.out hbw1) (by have:=hok1.2.1;unfold qz at this hl;omega);unfold vo at htake;replace htake:=hid htake
   go_wp2_with (go_at_call 355;refine htake.out.mono ?_;rintro e w2 ⟨nv,ow2,rfl,hs2,hb2,hR2,hn2⟩;replace hn2:Hid (∀_,_):=hn2;replace hb2:Hid (jR _ _ _ _ _):=hb2)
   have hfx:=hs2.free ht (N0 _) (by omega);refine hK.out _ _ (λ_=>⟨kx.kept hfx.1,(hs2.cell (p:=⟨B,0,none⟩) (by show B<_;omega) (by rw [Own.cut_old hBl1];exact hB1t)).trans eB1,trivial⟩) ?_;clear hK K
   (repeat (refine za (v:=?_) rfl rfl (λw' h=>?_) (λK k=>?_);rotate_left;obtain⟨f1,f2,_⟩:=h;have e1:=f1.cell;go_simp;(try with_reducible rfl);go_simp;refine k _ ?_;clear k K))
   refine ze ?_;have hu2:=Hid.out hn1;have hR1':=(hR1.below hbw1).step hs2 (λg hg=>by rw [Own.cut_old (hR1.lt hg),(hu2 g hg).2];exact zj ht)
   have hlenA:(zV b (l.take k)).2.length+(xo (zV b (l.take k)).1 ((i,cc),d)).2.1.length<=1073741824:=by
    have h1:=VC hok (l.take (k+1));rw [hdn.out] at h1;simp only [N1,N7] at h1;omega
   clear hu2 eB1 kx;replace hlenA:=hid hlenA
   go_wp2_with (at_builtin
                obtain⟨v',W3,hrun,hrow,hgr,hown⟩:=zT zcc hR1' hR2.src (jq _) hlenA.out 42;refine zw rfl _ _ _ rfl rfl rfl hrun ?_
                clear hrun)
   go_roundw
   case rel=>
    have hst:zq t ow w ow2 w2:=hs1.trans (zq.wrap hbw1 hs2);have hnv:=hn1.out;have hog:∀g,_:=λg hg=>(hs2.free2 (hR1.lt (g:=g) hg) (hnv g hg).2 hbw1.size)
    refine⟨k+1,by go_num,by omega,ow2.cut w2,(zq.cut hst).grownNew hgr (λg hg=>(hnv g hg).1),?_,?_,?_⟩
    ·rw [hdn.out]
     exact(jR.loc bb _ t) _ _ _ _ ((jR.loc bb _ t).cutHere hb2.out) hgr.size (λg hg hs=>⟨rfl,hgr.block g hg (λe=>by
      rw [Own.cut_old hg,hog g e.symm] at hs;exact zj ht hs)⟩)
    ·rw [hdn.out]
     simp only [N1,U5];exact hrow
    ·intro g hg
     rw [hg] at hown
     rcases hown with h|h
     ·exact⟨(hnv g h.symm).1,by rw [Own.cut_old (hR1'.lt h.symm)];exact hog g h.symm⟩
     ·simp at h
      exact⟨by rw [h];exact hst.size,Own.cut_new (by omega)⟩
   case measure=>simp [intOf];omega
  ·obtain rfl:k=l.length:=by omega
   rw [List.take_length] at hb1 hR1;replace hn1:=hid hn1;replace hb1:=hid hb1;clear hm hmt hB;go_wp2;go_ret
   exact⟨_,ow1,rfl,hs1,hb1.out,hR1,hn1.out⟩
def zjU(B:Nat)(t:List Nat)(ow:Own)(w:World)(f:yJ)(l:List zy)(b:Bool)(e:Ending)(w':World):Prop:=
 ∃v ow',e=.returned (.tuple #[v,.bool b])/\zq t ow w ow' w'/\zH B f t ow' w'/\Row w' 78 3 v l.length (l.flatMap zh)/\(∀g,v.ownBlock=some g->w.heap.size<=g/\ow' g=[])
theorem zaT {B:Nat}{f:yJ}{t:List Nat}{ow:Own}{w:World} :zH B f t ow w->ow B=t:=λ⟨_,_,_,_,_,_,o1,_⟩=>o1
theorem zgz(B:Nat)(f:yJ)(t:List Nat)(ow:Own)(e:jy)(mv:Value)(w:World)(h:zH B f t ow w)
 (hm:x8 w mv e.msgs) (hmt:∀a l c,mv=.slice (some a) l c->¬Sub t (ow a.block)) (hl:qz f.book+e.msgs.length<=536870912):
 Calls prog 309 #[.pointer (some ⟨B,0,none⟩),qV e mv] w (zjU B t ow w {f with book:=(zV f.book e.msgs).1} (zV f.book e.msgs).2 false):=by
 obtain⟨hne,bb,ev,hB,hbk,hR,o1,o2⟩:=h;obtain⟨W1,hW1⟩:∃W1,W1=(w.alloc (.cells #[.int .i64 e.kind,.int .u32 e.epoch,.int .i64 e.ver,mv] 241)).drew:=⟨_,rfl⟩;have hb1:Below w.heap.size w W1:=by rw [hW1];exact pbx
 have kx:Blk W1 w.heap.size #[.int .i64 e.kind,.int .u32 e.epoch,.int .i64 e.ver,mv] 241:=by rw [hW1];exact bkx
 have hsz:W1.heap.size=w.heap.size+1:=by rw [hW1];simp
 have hBl:=hB.lt;unfold vp at hB;have hB1:=hB.call hb1;have htc:t++ [0] ≠ []:=by simp
 have hd:=zcs B bb f.book (t++ [0]) htc (ow.cut w) mv e.msgs W1 (hB1.cell 0) (by rw [Own.cut_old hBl,o1];exact zQ t 0) ((jR.loc bb f.book (t++ [0])).cut hbk hb1) (hm.below hb1)
  (λa l c h hs=>by
   rcases Nat.lt_or_ge a.block w.heap.size with h1|h1
   ·rw [Own.cut_old h1] at hs;exact hmt a l c h ((Sub.child t 0).trans hs)
   ·rw [Own.cut_new h1] at hs;exact zj htc hs) hl
 replace hd:=hid hd;replace hmt:=hid hmt;replace o2:=hid o2;replace hm:=hid hm;replace hbk:=hid hbk;unfold qV
 go_enter func309,ntmps309
 go_wp2;refine zd [O 0,O 1,O 2,O 3,O 4,E 5,O 6,O 7] none (λw'=>Blk w' w.heap.size #[.int .i64 e.kind,.int .u32 e.epoch,.int .i64 e.ver,mv] 241/\True) (by kernel_rfl) (by kernel_rfl) (by rw [← hW1];exact⟨kx,trivial⟩) ?_;rw [← hW1];clear hW1
 (repeat (refine za (v:=?_) rfl rfl (λw' h=>?_) (λK k=>?_);rotate_left;obtain⟨f1,_⟩:=h;have e1:=f1.cell;go_simp;(try with_reducible rfl);go_simp;refine k _ ?_;clear k K))
 refine zc rfl (λK hK=>?_)
 go_wp2_with (go_at_call 335;refine hd.out.mono ?_;rintro r w2 ⟨nv,ow2,rfl,hs2,hb2,hR2,hn2⟩;replace hn2:Hid (∀_,_):=hn2;replace hb2:Hid (jR _ _ _ _ _):=hb2)
 have hfree:=hs2.free htc (N0 _) (by omega);refine hK.out _ _ (λ_=>⟨kx.kept hfree.1,trivial⟩) ?_;clear hK K
 (repeat (refine za (v:=?_) rfl rfl (λw' h=>?_) (λK k=>?_);rotate_left;obtain⟨f1,_⟩:=h;have e1:=f1.cell;go_simp;(try with_reducible rfl);go_simp;refine k _ ?_;clear k K))
 refine ze ?_;go_wp2;refine bodyPost_ret (v:=.tuple #[nv,.bool false]) (by simp [results,Tryz.results309,go_sem]) rfl ?_;have hst:=(zq.wrap hb1 hs2).mono (Sub.child t 0);refine⟨nv,ow2,rfl,hst,⟨hne,bb,ev,?_,hb2.out,?_,?_,?_⟩,hR2,λg hg=>⟨by have:=(hn2.out g hg).1;omega,(hn2.out g hg).2⟩⟩
 ·exact hB1.kept (hs2.block hB1.lt (by rw [Own.cut_old hBl,o1];exact zQ t 0))
 ·exact(hR.below hb1).step hs2 (λg hg=>by rw [Own.cut_old (hR.lt hg),o2.out g hg];exact zQ t 0)
 ·rw [hst.agree B hBl,o1]
 ·intro g hg;rw [hst.agree g (hR.lt hg),o2.out g hg]
theorem zgA(B:Nat)(f:yJ)(t:List Nat)(ow:Own)(e:jy)(mv:Value)(w:World)(h:zH B f t ow w)(hc:j2 (vk f.eras).2.1 e.ver≠0)(hl:f.eras.length<=536870912):
 Calls prog 310 #[.pointer (some ⟨B,0,none⟩),qV e mv] w λr w'=>r=.returned (.tuple #[.slice none 0 0,.bool false])/\Below w.heap.size w w':=by
 have hnow:=Vz B f t ow;obtain⟨⟨ep,ve,st⟩,hn⟩:∃n,vk f.eras=n:=⟨_,rfl⟩;rw [hn] at hnow hc;unfold Js at hnow;simp only at hc;obtain⟨W1,hW1⟩:∃W1,W1=(w.alloc (.cells #[.int .i64 e.kind,.int .u32 e.epoch,.int .i64 e.ver,mv] 241)).drew:=⟨_,rfl⟩;have hb1:Below w.heap.size w W1:=by rw [hW1];exact pbx
 have kx:Blk W1 w.heap.size #[.int .i64 e.kind,.int .u32 e.epoch,.int .i64 e.ver,mv] 241:=by rw [hW1];exact bkx
 have hF:Hid (zH B f t ow W1):=(zH.loc B f t).below h hb1;have hf1:=zgs ep ve st;have t1:(j2 ve e.ver !=0)=true:=by simpa using hc
 clear hc h;replace hnow:=hid hnow;replace hn:=hid hn;unfold qV
 go_enter func310,ntmps310
 go_wp2;refine zd [O 0,O 3,O 4,E 1,O 2,E 5,O 6] none (λw'=>Blk w' w.heap.size #[.int .i64 e.kind,.int .u32 e.epoch,.int .i64 e.ver,mv] 241/\True) (by kernel_rfl) (by kernel_rfl) (by rw [← hW1];exact⟨kx,trivial⟩) ?_;rw [← hW1];clear hW1
 (repeat (refine za (v:=?_) rfl rfl (λw' h=>?_) (λK k=>?_);rotate_left;obtain⟨f1,_⟩:=h;have e1:=f1.cell;go_simp;(try with_reducible rfl);go_simp;refine k _ ?_;clear k K))
 refine zc rfl (λK hK=>?_)
 go_wp2_with (go_at_call 308;refine(hnow.out _ hF.out (by omega)).mono ?_;rintro r w2 ⟨rfl,hb2⟩)
 have k2:=kx.call hb2;refine hK.out _ _ (λ_=>⟨k2,trivial⟩) ?_;clear hK K
 (repeat (refine za (v:=?_) rfl rfl (λw' h=>?_) (λK k=>?_);rotate_left;obtain⟨f1,_⟩:=h;have e1:=f1.cell;go_simp;(try with_reducible rfl);go_simp;refine k _ ?_;clear k K))
 refine zc rfl (λK hK=>?_)
 go_wp2_with (go_at_call 110;refine(xJ _ _ _).mono ?_;rintro r w3 ⟨rfl,hb3⟩)
 have k3:=k2.call hb3;refine hK.out _ _ (λ_=>⟨k3,trivial⟩) ?_;clear hK K
 (repeat (refine za (v:=?_) rfl rfl (λw' h=>?_) (λK k=>?_);rotate_left;obtain⟨f1,_⟩:=h;have e1:=f1.cell;go_simp;(try with_reducible rfl);go_simp;refine k _ ?_;clear k K))
 refine ze ?_;have hbw:Below w.heap.size w w3:=zg (zg hb1 hb2) hb3;go_wp2;go_ret2
 exact⟨rfl,hbw⟩
theorem zeI(B:Nat)(f:yJ)(t:List Nat)(ow:Own)(e:jy)(mv:Value)(w:World)(h:zH B f t ow w)(hc:j2 (vk f.eras).2.1 e.ver=0)(hl:f.eras.length<=536870912):
 Calls prog 310 #[.pointer (some ⟨B,0,none⟩),qV e mv] w (QR B (vG f e.ver true) t ow w (.tuple #[.slice none 0 0,.bool true])):=by
 have hnow:=Vz B f t ow;obtain⟨⟨ep,ve,st⟩,hn⟩:∃n,vk f.eras=n:=⟨_,rfl⟩;rw [hn] at hnow hc;unfold Js at hnow;simp only at hc;obtain⟨W1,hW1⟩:∃W1,W1=(w.alloc (.cells #[.int .i64 e.kind,.int .u32 e.epoch,.int .i64 e.ver,mv] 241)).drew:=⟨_,rfl⟩;have hb1:Below w.heap.size w W1:=by rw [hW1];exact pbx
 have kx:Blk W1 w.heap.size #[.int .i64 e.kind,.int .u32 e.epoch,.int .i64 e.ver,mv] 241:=by rw [hW1];exact bkx
 have hF:Hid (zH B f t ow W1):=(zH.loc B f t).below h hb1;have hf1:=zgs ep ve st;have t1:(j2 ve e.ver !=0)=false:=by simpa using hc
 clear hc;replace hnow:=hid hnow;replace hn:=hid hn;replace h:=hid h;unfold qV
 go_enter func310,ntmps310
 go_wp2;refine zd [O 0,O 3,O 4,E 1,O 2,E 5,O 6] none (λw'=>Blk w' w.heap.size #[.int .i64 e.kind,.int .u32 e.epoch,.int .i64 e.ver,mv] 241/\True) (by kernel_rfl) (by kernel_rfl) (by rw [← hW1];exact⟨kx,trivial⟩) ?_;rw [← hW1];clear hW1
 (repeat (refine za (v:=?_) rfl rfl (λw' h=>?_) (λK k=>?_);rotate_left;obtain⟨f1,_⟩:=h;have e1:=f1.cell;go_simp;(try with_reducible rfl);go_simp;refine k _ ?_;clear k K))
 refine zc rfl (λK hK=>?_)
 go_wp2_with (go_at_call 308;refine(hnow.out _ hF.out (by omega)).mono ?_;rintro r w2 ⟨rfl,hb2⟩)
 have k2:=kx.call hb2;refine hK.out _ _ (λ_=>⟨k2,trivial⟩) ?_;clear hK K
 (repeat (refine za (v:=?_) rfl rfl (λw' h=>?_) (λK k=>?_);rotate_left;obtain⟨f1,_⟩:=h;have e1:=f1.cell;go_simp;(try with_reducible rfl);go_simp;refine k _ ?_;clear k K))
 refine zc rfl (λK hK=>?_)
 go_wp2_with (go_at_call 110;refine(xJ _ _ _).mono ?_;rintro r w3 ⟨rfl,hb3⟩)
 have k3:=k2.call hb3;refine hK.out _ _ (λ_=>⟨k3,trivial⟩) ?_;clear hK K
 (repeat (refine za (v:=?_) rfl rfl (λw' h=>?_) (λK k=>?_);rotate_left;obtain⟨f1,_⟩:=h;have e1:=f1.cell;go_simp;(try with_reducible rfl);go_simp;refine k _ ?_;clear k K))
 refine ze ?_;have hbw:Below w.heap.size w w3:=zg (zg hb1 hb2) hb3;have e3:=k3.cell;have hbeg:=VA B f t (ow.cut w) e.ver true w3 ((zH.loc B f t).cut h.out hbw) hl;replace hbeg:=hid hbeg
 go_wp2_with (go_at_call 336;refine hbeg.out.mono ?_;rintro r w4 ⟨rfl,ow2,hs2,hf2⟩;replace hf2:Hid (zH _ _ _ _ _):=hf2)
 refine bodyPost_ret (v:=.tuple #[.slice none 0 0,.bool true]) (by simp [results,Tryz.results310,go_sem]) rfl ?_;exact⟨rfl,ow2,zq.wrap hbw hs2,hf2.out⟩
theorem zH.count {B:Nat}{f:yJ}{t:List Nat}{ow:Own}{w:World}(h:zH B f t ow w)(c:Int):zH B {f with count:=c} t ow (w.setCell ⟨B,2,none⟩ (.int .i64 c)):=by
 obtain⟨hne,bb,ev,hB,hbk,hR,o1,o2⟩:=h;refine⟨hne,bb,ev,hB.set _,?_,hR.kept (λg hg=>N4 _ _ _ _ (show g≠B from hR.ne_blk hB (by decide) hg)),o1,o2⟩;exact(jR.loc bb f.book (t++ [0])) _ _ _ _ hbk (by simp) (λk hk hs=>⟨rfl,N4 _ _ _ _ (show k≠B from λe=>by subst e;rw [o1] at hs;exact zQ t 0 hs)⟩)
def XK(n:Int):Value:=.int .i64 n
theorem zjV(n:Nat)(b:Bool)(x:Int)(w:World):(Instr.checkKey b (n+1) 3 (.int .i64 x)).run prog w=.ok () w:=by
 simp [Instr.checkKey,go_sem]
theorem xN:x4 prog 3 XK where
 eq:=λk k' w=>by
  have h:(Op.equal 3 (XK k) (XK k')).run prog w=(Op.equalIn 10000 3 (.int .i64 k) (.int .i64 k')).run prog w:=rfl;rw [h];simp [go_sem]
  by_cases h1:k=k'<;>simp [h1]
 chk:=λb k w=>zjV 9999 b k w
 bits:=λk=>by simp [XK,Instr.sameBits]
 now:=⟨_,Tryz.underlying3,λk k'=>by
  by_cases h:k=k'
  ·right;subst h;simp [XK,Instr.sameNow]
  ·right;simp [XK,Instr.sameNow,h]⟩
theorem jA(w:World)(o o':Obj):(w.alloc o).putObj w.heap.size o'=w.alloc o':=by
 have h:(w.heap.push o).setIfInBounds w.heap.size o'=w.heap.push o':=by
  apply Array.ext_getElem?
  intro i;simp only [Array.getElem?_setIfInBounds,Array.getElem?_push,Array.size_push]
  by_cases hi:w.heap.size=i
  ·subst hi;simp
  ·have hi':¬i=w.heap.size:=λe=>hi e.symm
   simp [hi,hi']
 exact congrArg (λhp=>({heap:=hp,tape:=w.tape,drawn:=w.drawn,os:=w.os,output:=w.output} :World)) h
theorem zkK(a b c:Value)(k:Int)(h:k=1):(zD k (put (3:Int) c (put 2 b (put 1 a [])))).getD Value.nilFunc=a:=by subst h;rfl
theorem zkL(a b c:Value)(k:Int)(h:k=2):(zD k (put (3:Int) c (put 2 b (put 1 a [])))).getD Value.nilFunc=b:=by subst h;rfl
theorem zkM(a b c:Value)(k:Int)(h:k=3):(zD k (put (3:Int) c (put 2 b (put 1 a [])))).getD Value.nilFunc=c:=by subst h;rfl
theorem QS {e:jy}(h:ZL e=true):e.kind=1∨e.kind=2∨e.kind=3:=by
 rcases Decidable.em (xM e=false)with h1|h1
 ·simp [ZL,jv,h1] at h
 ·unfold xM at h1
  by_cases a:e.kind=1
  ·exact .inl a
  ·by_cases b:e.kind=2
   ·exact .inr (.inl b)
   ·by_cases c:e.kind=3
    ·exact .inr (.inr c)
    ·simp [a,b,c] at h1
theorem Jt {e:jy}(h:ZL e=true):e.msgs.length<=64:=by
 rcases Nat.lt_or_ge 64 e.msgs.length with h1|h1
 ·exfalso
  have:(ye e.msgs).2=101:=by unfold ye;rw [if_pos h1]
  unfold ZL jv at h
  split at h
  ·simp at h
  ·rw [this] at h;simp at h
 ·exact h1
def zgB(B:Nat)(t:List Nat)(ow:Own)(w:World)(R:yJ×List zy×Bool×Int)(e:Ending)(w':World):Prop:=
 ∃v ow',e=.returned (.tuple #[v,.bool R.2.2.1,.int .i64 R.2.2.2])/\zq t ow w ow' w'/\zH B R.1 t ow' w'/\Row w' 78 3 v R.2.1.length (R.2.1.flatMap zh)/\(∀g,v.ownBlock=some g->w.heap.size<=g/\ow' g=[])
theorem zgC(B:Nat)(f:yJ)(t:List Nat)(ht:t≠ [])(ow:Own)(e:jy)(mv:Value)(w:World)(h:zH B f t ow w)
 (hm:x8 w mv e.msgs) (hmt:∀a l c,mv=.slice (some a) l c->¬Sub t (ow a.block)) (hl:qz f.book+64<=536870912) (hl2:f.eras.length<=536870912) (hm2:e.msgs.length<=1073741824) (hct:0<=f.count/\f.count<=1073741824):
 Calls prog 261 #[.pointer (some ⟨B,0,none⟩),qV e mv] w (zgB B t ow w (jX f e)):=by
 have hr:=zeA e mv;unfold qV at hr⊢;replace hr:=hid hr;replace hmt:=hid hmt;replace hm:=hid hm;obtain⟨R,hR⟩:∃R,jX f e=R:=⟨_,rfl⟩;rw [hR];unfold jX at hR;have hnil:=zdI B f t ow;replace hnil:=hid hnil
 cases hre:ZL e
 ·rw [if_pos hre] at hR
  subst hR;replace h:=hid h
  go_enter func261,ntmps261
  go_wp2_with (first
   |(go_at_call 225;refine(hnil.out _ ((zH.loc B f t).below h.out (pbx))).mono ?_;rintro r w1 ⟨rfl,rfl⟩)
   |(go_at_call 307;refine(hr.out _ (hm.out.below (pbx)) hm2).mono ?_;rintro r w2 ⟨rfl,hb2⟩;rw [hre]))
  refine bodyPost_ret (v:=.tuple #[.slice none 0 0,.bool false,.int .i64 140]) (by simp [results,Tryz.results261,go_sem]) rfl ?_;have hbw:Below w.heap.size w w2:=pbx;exact⟨_,ow,rfl,zq.of_below t ow hbw,(zH.loc B f t).below h.out hbw,z7 _ _ _,by simp [Value.ownBlock]⟩
 ·rw [if_neg (by simp [hre])] at hR
  obtain⟨bb,ev,hB⟩:∃bb ev,Blk w B (vp bb ev f) 284:=h.2.choose_spec.choose_spec.1|>λh=>⟨_,_,h⟩
  have o1:=zaT h;have hBl:=hB.lt;unfold vp at hB;obtain⟨⟨ep,ve,st⟩,hn⟩:∃n,vk f.eras=n:=⟨_,rfl⟩;have hnow:∀W,zH B {f with count:=f.count+1} t (ow.cut w) W->_:=λW hF=>Vz B {f with count:=f.count+1} t (ow.cut w) W hF (by show f.eras.length<=_;omega)
  simp only [hn] at hnow hR;unfold Js at hnow;replace hnow:=hid hnow;replace hn:=hid hn;replace h:=hid h;have hf0:=zgr ep ve st;have hct2:f.count+1<=1073741825:=by omega
  obtain⟨hct0,hct1⟩:=hct
  by_cases hep:e.epoch=ep
  ·subst hep
   rw [if_neg (by simp)] at hR;replace hR:=hid hR
   go_enter func261,ntmps261
   go_wp2_with (first
    |(go_at_call 225;refine(hnil.out _ ((zH.loc B f t).below h.out (pbx))).mono ?_;rintro r w1 ⟨rfl,rfl⟩)
    |(go_at_call 307;refine(hr.out _ (hm.out.below (pbx)) hm2).mono ?_;rintro r w2 ⟨rfl,hb2⟩;rw [hre]
      have hbw:Below w.heap.size w w2:=zg (zi (N2 _ _) _) hb2;have kx:Blk w2 w.heap.size #[.int .i64 e.kind,.int .u32 e.epoch,.int .i64 e.ver,mv] 241:=Blk.call (Blk.new rfl) hb2;have kB:=hB.call hbw;have eB:=kB.cell;have fB:=kB.frozen
      have lB:=kB.lt))
   clear eB fB;obtain⟨W3,hW3⟩:∃W3,W3=w2.setCell ⟨B,2,none⟩ (.int .i64 (f.count+1)):=⟨_,rfl⟩;have hF3:zH B {f with count:=f.count+1} t (ow.cut w) W3:=by rw [hW3];exact((zH.loc B f t).cut h.out hbw).count _
   have kx3:Blk W3 w.heap.size #[.int .i64 e.kind,.int .u32 e.epoch,.int .i64 e.ver,mv] 241:=by rw [hW3];exact kx.other (by simp;omega) _
   have hst3:zq t ow w (ow.cut w) W3:=by rw [hW3];exact⟨(Mod.of_below (λk=>Sub t (ow k)) hbw).thenSet (p:=⟨B,2,none⟩) (by simp only [o1];exact Sub.rfl' t) _,λk hk=>Own.cut_old hk⟩
   rw [← hW3];clear hW3 kB lB kx;refine zd [O 0,O 1,O 2,E 3,O 4,O 5] none (λw'=>Blk w' w.heap.size #[.int .i64 e.kind,.int .u32 e.epoch,.int .i64 e.ver,mv] 241/\True) (by kernel_rfl) (by kernel_rfl) ⟨kx3.drew,trivial⟩ ?_
   (repeat (refine za (v:=?_) rfl rfl (λw' h=>?_) (λK k=>?_);rotate_left;obtain⟨f1,_⟩:=h;have e1:=f1.cell;go_simp;(try with_reducible rfl);go_simp;refine k _ ?_;clear k K))
   refine zc rfl (λK hK=>?_)
   go_wp2_with (go_at_call 308;refine(hnow.out _ ((zH.loc B _ t).below hF3 (Below.drew (N2 _ _)))).mono ?_;rintro r w4 ⟨rfl,hb4⟩)
   have kx4:=kx3.drew.call hb4;refine hK.out _ _ (λ_=>⟨kx4,trivial⟩) ?_;clear hK
   (repeat (refine za (v:=?_) rfl rfl (λw' h=>?_) (λK k=>?_);rotate_left;obtain⟨f1,_⟩:=h;have e1:=f1.cell;go_simp;(try with_reducible rfl);go_simp;refine k _ ?_;clear k K))
   refine ze ?_;have hmm:= @run_makeMap prog;have e4:=kx4.cell;have m0:=jc.made w4 XK;obtain⟨o1',hu1,m1⟩:=m0.update xN Tryz.underlying457 1 (.func (.func 309) #[.pointer (some ⟨B,0,none⟩)] #[]);rw [jA] at hu1 m1;obtain⟨o2',hu2,m2⟩:=m1.update xN Tryz.underlying457 2 (.func (.func 310) #[.pointer (some ⟨B,0,none⟩)] #[]);rw [jA] at hu2 m2;obtain⟨o3',hu3,m3⟩:=m2.update xN Tryz.underlying457 3 (.func (.func 311) #[.pointer (some ⟨B,0,none⟩)] #[]);rw [jA] at hu3 m3;clear m0 m1 m2;have hk123:e.kind=1∨e.kind=2∨e.kind=3:=QS hre;have e5:=(kx4.alloc o3').cell;have hst5:zq t ow w (ow.cut w) (w4.alloc o3'):=hst3.trans ((zq.of_below t (ow.cut w) (Below.drew (N2 _ _))).trans ((zq.of_below t (ow.cut w) hb4).trans (zq.alloc t (ow.cut w) w4 o3')));have hF5:zH B {f with count:=f.count+1} t (ow.cut w) (w4.alloc o3'):=(zH.loc B _ t).below ((zH.loc B _ t).below ((zH.loc B _ t).below hF3 (Below.drew (N2 _ _))) hb4) ((N2 _ _).alloc (N0 _) _);have hm5:x8 (w4.alloc o3') mv e.msgs:=hm.out.step hst5 hmt.out
   have hmt5:∀a l c,mv=.slice (some a) l c->¬Sub t (ow.cut w a.block):=λa l c h hs=>by
    rcases Nat.lt_or_ge a.block w.heap.size with h1|h1
    ·rw [Own.cut_old h1] at hs;exact hmt.out a l c h hs
    ·rw [Own.cut_new h1] at hs;exact zj ht hs
   have hm64:e.msgs.length<=64:=Jt hre
   rcases hk123 with hkind|hkind|hkind
   ·have hlk:=m3.lookup xN Tryz.underlying457 (z:=.nilFunc) (by kernel_rfl) e.kind
    rw [zkK _ _ _ _ hkind] at hlk;unfold XK at hlk hu1 hu2 hu3;replace hkind:=hid hkind;have hRR:=hR.out;rw [if_pos hkind.out] at hRR;replace hRR:=hid hRR;have hcall:=zgz B {f with count:=f.count+1} t (ow.cut w) e mv (w4.alloc o3') hF5 hm5 hmt5 (by show qz f.book+_<=_;omega);unfold qV at hcall;replace hcall:=hid hcall
    go_wp2_with (go_at_call 309;refine hcall.out.mono ?_;rintro r w6 ⟨nv,ow6,rfl,hs6,hf6,hR6,hn6⟩;replace hn6:Hid (∀_,_):=hn6;replace hf6:Hid (zH _ _ _ _ _):=hf6)
    refine bodyPost_ret (v:=.tuple #[nv,.bool false,.int .i64 0]) (by simp [results,Tryz.results261,go_sem]) rfl ?_;have hz:=hst5.size;rw [← hRR.out];exact⟨nv,ow6,rfl,hst5.trans hs6,hf6.out,hR6,λg hg=>⟨by have:=(hn6.out g hg).1;omega,(hn6.out g hg).2⟩⟩
   ·have hlk:=m3.lookup xN Tryz.underlying457 (z:=.nilFunc) (by kernel_rfl) e.kind
    rw [zkL _ _ _ _ hkind] at hlk;unfold XK at hlk hu1 hu2 hu3;replace hkind:=hid hkind;have hRR:=hR.out;rw [if_neg (by rw [hkind.out];decide),if_pos hkind.out] at hRR
    by_cases hck:j2 ve e.ver=0
    ·rw [if_neg (by simpa using hck)] at hRR
     replace hRR:=hid hRR;have hck':=hid hck;clear hck;have hcall:=zeI B {f with count:=f.count+1} t (ow.cut w) e mv (w4.alloc o3') hF5 (by show j2 (vk f.eras).2.1 e.ver=0;rw [hn.out];exact hck'.out) hl2;unfold qV at hcall;replace hcall:=hid hcall
     go_wp2_with (go_at_call 310;refine hcall.out.mono ?_;rintro r w6 ⟨rfl,ow6,hs6,hf6⟩;replace hf6:Hid (zH _ _ _ _ _):=hf6)
     refine bodyPost_ret (v:=.tuple #[.slice none 0 0,.bool true,.int .i64 0]) (by simp [results,Tryz.results261,go_sem]) rfl ?_;rw [← hRR.out];exact⟨_,ow6,rfl,hst5.trans hs6,hf6.out,z7 _ _ _,by simp [Value.ownBlock]⟩
    ·rw [if_pos (by simpa using hck)] at hRR
     replace hRR:=hid hRR;have hcall:=zgA B {f with count:=f.count+1} t (ow.cut w) e mv (w4.alloc o3') hF5 (by show j2 (vk f.eras).2.1 e.ver≠0;rw [hn.out];exact hck) hl2;unfold qV at hcall;replace hcall:=hid hcall
     go_wp2_with (go_at_call 310;refine hcall.out.mono ?_;rintro r w6 ⟨rfl,hb6⟩)
     refine bodyPost_ret (v:=.tuple #[.slice none 0 0,.bool false,.int .i64 0]) (by simp [results,Tryz.results261,go_sem]) rfl ?_;rw [← hRR.out];exact⟨_,_,rfl,hst5.trans (zq.of_below t _ hb6),(zH.loc B _ t).below hF5 hb6,z7 _ _ _,by simp [Value.ownBlock]⟩
   ·have hlk:=m3.lookup xN Tryz.underlying457 (z:=.nilFunc) (by kernel_rfl) e.kind
    rw [zkM _ _ _ _ hkind] at hlk;unfold XK at hlk hu1 hu2 hu3;replace hkind:=hid hkind;have hRR:=hR.out;rw [if_neg (by rw [hkind.out];decide),if_neg (by rw [hkind.out];decide)] at hRR
    cases hsw:f.sw
    ·rw [if_pos hsw] at hRR
     replace hRR:=hid hRR;have hcall:=zcr B {f with count:=f.count+1} t (ow.cut w) (qV e mv) ⟨_,_,_,_,rfl⟩ hsw (w4.alloc o3') hF5;unfold qV at hcall;replace hcall:=hid hcall
     go_wp2_with (go_at_call 311;refine hcall.out.mono ?_;rintro r w6 ⟨rfl,hb6⟩)
     refine bodyPost_ret (v:=.tuple #[.slice none 0 0,.bool false,.int .i64 0]) (by simp [results,Tryz.results261,go_sem]) rfl ?_;rw [← hRR.out];exact⟨_,_,rfl,hst5.trans (zq.of_below t _ hb6),(zH.loc B _ t).below hF5 hb6,z7 _ _ _,by simp [Value.ownBlock]⟩
    ·rw [if_neg (by simp [hsw])] at hRR
     replace hRR:=hid hRR;have hcall:=zaS B {f with count:=f.count+1} t ht (ow.cut w) (qV e mv) ⟨_,_,_,_,rfl⟩ hsw (w4.alloc o3') hF5 hl2;unfold qV at hcall;replace hcall:=hid hcall
     go_wp2_with (go_at_call 311;refine hcall.out.mono ?_;rintro r w6 ⟨rfl,ow6,hs6,hf6⟩;replace hf6:Hid (zH _ _ _ _ _):=hf6)
     refine bodyPost_ret (v:=.tuple #[.slice none 0 0,.bool true,.int .i64 0]) (by simp [results,Tryz.results261,go_sem]) rfl ?_;rw [← hRR.out];exact⟨_,ow6,rfl,hst5.trans hs6,by have:=hf6.out;rw [show vk ({f with count:=f.count+1} :yJ).eras=(e.epoch,ve,st)from hn.out] at this;exact this,z7 _ _ _,by simp [Value.ownBlock]⟩
  ·have t1:((e.epoch:Int) !=(ep:Int))=true:=by simpa using(λh=>hep (by omega))
   rw [if_pos hep] at hR;clear hep;replace hR:=hid hR
   go_enter func261,ntmps261
   go_wp2_with (first
    |(go_at_call 225;refine(hnil.out _ ((zH.loc B f t).below h.out (pbx))).mono ?_;rintro r w1 ⟨rfl,rfl⟩)
    |(go_at_call 307;refine(hr.out _ (hm.out.below (pbx)) hm2).mono ?_;rintro r w2 ⟨rfl,hb2⟩;rw [hre]
      have hbw:Below w.heap.size w w2:=zg (zi (N2 _ _) _) hb2;have kx:Blk w2 w.heap.size #[.int .i64 e.kind,.int .u32 e.epoch,.int .i64 e.ver,mv] 241:=Blk.call (Blk.new rfl) hb2;have kB:=hB.call hbw;have eB:=kB.cell;have fB:=kB.frozen
      have lB:=kB.lt))
   clear eB fB;obtain⟨W3,hW3⟩:∃W3,W3=w2.setCell ⟨B,2,none⟩ (.int .i64 (f.count+1)):=⟨_,rfl⟩;have hF3:zH B {f with count:=f.count+1} t (ow.cut w) W3:=by rw [hW3];exact((zH.loc B f t).cut h.out hbw).count _
   have kx3:Blk W3 w.heap.size #[.int .i64 e.kind,.int .u32 e.epoch,.int .i64 e.ver,mv] 241:=by rw [hW3];exact kx.other (by simp;omega) _
   have hst3:zq t ow w (ow.cut w) W3:=by rw [hW3];exact⟨(Mod.of_below (λk=>Sub t (ow k)) hbw).thenSet (p:=⟨B,2,none⟩) (by simp only [o1];exact Sub.rfl' t) _,λk hk=>Own.cut_old hk⟩
   rw [← hW3];clear hW3 kB lB kx;refine zd [O 0,O 1,O 2,E 3,O 4,O 5] none (λw'=>Blk w' w.heap.size #[.int .i64 e.kind,.int .u32 e.epoch,.int .i64 e.ver,mv] 241/\True) (by kernel_rfl) (by kernel_rfl) ⟨kx3.drew,trivial⟩ ?_
   (repeat (refine za (v:=?_) rfl rfl (λw' h=>?_) (λK k=>?_);rotate_left;obtain⟨f1,_⟩:=h;have e1:=f1.cell;go_simp;(try with_reducible rfl);go_simp;refine k _ ?_;clear k K))
   refine zc rfl (λK hK=>?_)
   go_wp2_with (go_at_call 308;refine(hnow.out _ ((zH.loc B _ t).below hF3 (Below.drew (N2 _ _)))).mono ?_;rintro r w4 ⟨rfl,hb4⟩)
   have kx4:=kx3.drew.call hb4;refine hK.out _ _ (λ_=>⟨kx4,trivial⟩) ?_;clear hK
   (repeat (refine za (v:=?_) rfl rfl (λw' h=>?_) (λK k=>?_);rotate_left;obtain⟨f1,_⟩:=h;have e1:=f1.cell;go_simp;(try with_reducible rfl);go_simp;refine k _ ?_;clear k K))
   refine ze ?_;have hst5:zq t ow w (ow.cut w) w4:=hst3.trans ((zq.of_below t (ow.cut w) (Below.drew (N2 _ _))).trans (zq.of_below t (ow.cut w) hb4));have hF5:zH B {f with count:=f.count+1} t (ow.cut w) w4:=(zH.loc B _ t).below ((zH.loc B _ t).below hF3 (Below.drew (N2 _ _))) hb4;clear hF3 hst3;replace hF5:=hid hF5;go_wp2;refine bodyPost_ret (v:=.tuple #[.slice none 0 0,.bool false,.int .i64 0]) (by simp [results,Tryz.results261,go_sem]) rfl ?_;rw [← hR.out];exact⟨_,_,rfl,hst5,hF5.out,z7 _ _ _,by simp [Value.ownBlock]⟩
end
open Go
def YM(s:Nat):Nat:=if s % 2=1 then(s / 2)^^^ 3988292384 else s / 2
def Zd:Nat->Nat->Nat
 |0,s=>s
 |n+1,s=>Zd n (YM s)
def vx(s:Nat)(b:UInt8):Nat:=Zd 8 (s ^^^ b.toNat)
def zgD(l:List UInt8):Nat:=4294967295 - l.foldl vx 4294967295
def qB(l:List UInt8):List UInt8:=l++le4 (zgD l)
def xA(l:List UInt8):Option (List UInt8):=
 if l.length<4 then none else if l.drop (l.length - 4)=le4 (zgD (l.take (l.length - 4)))then some (l.take (l.length - 4))else none
def yn(l:List UInt8):Nat:=if l.length=4 then l.foldr (λb n=>b.toNat+256*n) 0 else 0
