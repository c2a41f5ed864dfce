/- PARTS OF THE PROOF. -/
import Derived.Test.YtofppfoioodblaaGreatDoorTT15
import Derived.Test.YtofppfoioodblaaGreatDoorTT26
set_option maxRecDepth 8000
set_option maxHeartbeats 4000000
open Go.Proofs.Tryz
namespace Go.Proofs.YtofppfoioodblaaGreatDoor
open Go Go.RowKit Go.Shelf Go.Extern.Stop Go.Stop Go.Extern
attribute [local go_sem] Oper.semAt_some zv zm
def zho(r:zy×Int):Value:=.tuple #[vo r.1,.int .i64 r.2]
theorem Xa:∀(k:Nat)(n:zp),n.acc.length<=k+n.offered->jG (k+1) n=jG k n
 |0,n,h=>by
  have hx:n.acc[n.offered]?=none:=List.getElem?_eq_none (by omega);unfold jG;simp only [hx];try rfl
 |k+1,n,h=>by
  rw [jG]
  conv=>rhs;rw [jG]
  cases hx:n.acc[n.offered]? with
  |none=>rfl
  |some m=>
   simp only
   split
   ·exact Xa k _ (by show n.acc.length<=k+(n.offered+1);omega)
   ·rfl
theorem Yv {B:Nat}{m:zp}{t:List Nat}{ow ow':Own}{w w':World}(hs:zq t ow w ow' w')(h:jC B m t ow' w')(er:Int):vL B m t ow w (zho (((0,0),[]),er)) (.returned (.tuple #[.agg #[.int .i64 0,.int .u32 0,.string ⟨#[]⟩],.int .i64 er])) w':=⟨rfl,ow',hs,h⟩
theorem XP {px sb lb pb:Nat}{av:Value}(B:Nat)(n:zp)(t:List Nat)(ht:t≠ [])(ow:Own)(d:List UInt8)(hdl:d.length<=1000000)(w:World)(hN:zx B px sb lb pb av n t ow w)(hcap:vz n.store)(hal:n.acc.length<=200000):
 Calls prog 46 #[.pointer (some ⟨B,0,none⟩),.string (bs d)] w (vL B (zF n d).1 t ow w (zho (zF n d).2)):=by
 have hB:=hN.blk
 have hbn:zF n d=if n.down then(n,((0,0),[]),170)
  else if zB ((n.id,n.acc.length+1),d)=false then(n,((0,0),[]),100)
  else if(yf n false ([109] ++(ye [((n.id,n.acc.length+1),d)]).1)).2≠0 then((yf n false ([109] ++(ye [((n.id,n.acc.length+1),d)]).1)).1,((0,0),[]),(yf n false ([109] ++(ye [((n.id,n.acc.length+1),d)]).1)).2)
  else(jG (n.acc.length+1) {(yf n false ([109] ++(ye [((n.id,n.acc.length+1),d)]).1)).1 with acc:=n.acc++ [((n.id,n.acc.length+1),d)] },((n.id,n.acc.length+1),d),0):=rfl
 have hNa:=(zx.loc B px sb lb pb av n t).cut hN ((N2 w.heap.size w).alloc (N0 _) (.cells #[.int .i64 0,.int .u32 0,.string ⟨#[]⟩] 78));have hrW:=vX _ hNa.blk;unfold Jw at hrW;obtain⟨va,vc,rfl⟩:=hN.row.src.shape;unfold zz at hB;have e0:=hB.cell;have l0:=hB.lt;have hw1:IntKind.u32.wrap (n.acc.length:Int)=(n.acc.length:Int):=by rw [IntKind.wrap_u32];omega
 by_cases hd:n.down=true
 ·rw [if_pos hd] at hbn
  rw [hd] at hrW;rw [hbn];replace hbn:=hid hbn;replace hrW:=hid hrW;replace hd:=hid hd
  go_enter func46,ntmps46
  go_wp2_with fail
  refine hrW.out.mono ?_;rintro e w1⟨rfl,hw1⟩;obtain rfl:=hw1.symm;go_wp2;exact bodyPost_ret (v:=.tuple #[.agg #[.int .i64 0,.int .u32 0,.string ⟨#[]⟩],.int .i64 170]) (by simp [results,Tryz.results46,go_sem]) rfl (Yv (zq.of_below t ow (pbx)) ⟨_,_,_,_,_,(zx.loc B px sb lb pb _ n t).below hN (pbx)⟩ 170)
 ·have hd':n.down=false:=by simpa using hd
  rw [if_neg hd] at hbn;rw [hd'] at hrW;replace hrW:=hid hrW;replace hd:=hid hd;replace hd':=hid hd';obtain⟨c,hc⟩:∃c,n.acc.length+1=c:=⟨_,rfl⟩;have hci:(n.acc.length:Int)+1=(c:Int):=by omega
  have hw2:IntKind.u32.wrap ((n.acc.length:Int)+1)=(c:Int):=by rw [IntKind.wrap_u32];omega
  have hwc:IntKind.u32.wrap (c:Int)=(c:Int):=by rw [IntKind.wrap_u32];omega
  rw [hc] at hbn;have hright:=λW=>vH n.id c d W
  cases hr:zB ((n.id,c),d)
  ·rw [if_pos hr] at hbn
   rw [hr] at hright;rw [hbn];replace hbn:=hid hbn;replace hright:=hid hright;replace hr:=hid hr;replace hc:=hid hc
   go_enter func46,ntmps46
   go_wp2_with fail
   refine hrW.out.mono ?_;rintro e w1⟨rfl,hw1⟩;obtain rfl:=hw1.symm;go_wp2_with fail
   apply ZN (Wp:=λw'=>Below w.heap.size w w'/\Blk w' w.heap.size #[.int .i64 0,.int .u32 0,.string ⟨#[]⟩] 78/\Blk w' (w.heap.size+1) #[.int .i64 n.id,.int .u32 c,.string (bs d)] 78)
   case h=>
    go_region_with fail
    all_goals go_simp
    all_goals exact ZM ⟨pbx,bkx,bkx⟩
   case' h2=>
   rintro w1⟨hb1,k41,k71⟩;have c71:=k71.cell;have l71:=k71.lt;go_wp2_with fail
   refine(hright.out _).mono ?_;rintro e w2⟨rfl,hb2⟩;have k42:=k41.call hb2;have k72:=k71.call hb2;have hb2w:=zg hb1 hb2;have c42:=k42.cell;have f42:=k42.frozen;have l42:=k42.lt;have c72:=k72.cell;have l72:=k72.lt;clear c71 l71;have rr:=(((k42.set (o:=0) (.int .i64 0)).set (o:=1) (.int .u32 0)).set (o:=2) (.string ⟨#[]⟩)).cell;go_wp2;exact bodyPost_ret (v:=.tuple #[.agg #[.int .i64 0,.int .u32 0,.string ⟨#[]⟩],.int .i64 100]) (by simp [results,Tryz.results46,go_sem,rr]) rfl (Yv (zq.of_below t ow (zn (zn (zn hb2w (by simp) _) (by simp) _) (by simp) _)) ⟨_,_,_,_,_,(zx.loc B px sb lb pb _ n t).below hN (zn (zn (zn hb2w (by simp) _) (by simp) _) (by simp) _)⟩ 100)
  ·rw [if_neg (by simp [hr])] at hbn
   rw [hr] at hright;have hpk0:=Q0 hr;obtain⟨pk,hpk⟩:∃pk,[1] ++jj ((n.id,c),d)=pk:=⟨_,rfl⟩;rw [hpk] at hpk0;rw [hpk0] at hbn;simp only at hbn
   have hpkl:pk.length<=1010:=by
    rw [← hpk];have:d.length<=1000:=by simp [zB] at hr;omega
    simp [jj,zY];omega
   have hpack:=λv W hW=>zdH v [((n.id,c),d)] W hW (by simp)
   rw [hpk0] at hpack;have hkp:=λW h2 kb kc g h3 h4 k0 k1 kg=>JK B n t ht ow w ⟨_,_,_,_,_,hN⟩ hcap false [[109],pk] (by simp) (by simp) (by simp;omega) W h2 kb kc g h3 h4 k0 k1 kg
   rw [show [[109],pk].flatten=[109] ++pk by simp] at hkp;unfold JJ at hkp;have hka:(yf n false ([109] ++pk)).1.acc=n.acc:=rfl;obtain⟨⟨m,ek⟩,hm⟩:∃R,yf n false ([109] ++pk)=R:=⟨_,rfl⟩;rw [hm] at hkp hbn hka;simp only at hkp hbn hka;replace hkp:=hid hkp;replace hm:=hid hm;replace hpack:=hid hpack;replace hright:=hid hright;replace hr:=hid hr;replace hc:=hid hc;replace hpk:=hid hpk;replace hpk0:=hid hpk0;replace hka:=hid hka
   by_cases hek:ek=0
   ·subst hek
    rw [if_neg (by simp)] at hbn;rw [hbn];have t3:((0:Int) !=0)=false:=rfl;replace hbn:=hid hbn
    go_enter func46,ntmps46
    go_wp2_with fail
    refine hrW.out.mono ?_;rintro e w1⟨rfl,hw1⟩;obtain rfl:=hw1.symm;go_wp2_with fail
    apply ZN (Wp:=λw'=>Below w.heap.size w w'/\Blk w' w.heap.size #[.int .i64 0,.int .u32 0,.string ⟨#[]⟩] 78/\Blk w' (w.heap.size+1) #[.int .i64 n.id,.int .u32 c,.string (bs d)] 78)
    case h=>
     go_region_with fail
     all_goals go_simp
     all_goals exact ZM ⟨pbx,bkx,bkx⟩
    case' h2=>
    rintro w1⟨hb1,k41,k71⟩;have c71:=k71.cell;have l71:=k71.lt;go_wp2_with fail
    refine(hright.out _).mono ?_;rintro e w2⟨rfl,hb2⟩;have k42:=k41.call hb2;have k72:=k71.call hb2;have hb2w:=zg hb1 hb2;have c42:=k42.cell;have f42:=k42.frozen;have l42:=k42.lt;have c72:=k72.cell;have l72:=k72.lt;clear c71 l71;go_wp2_with fail
    refine(hpack.out _ _ (jM (n:=1) (size:=3) (cap:=1) (Blk.new (w:=w2) (cs:=#[.int .i64 n.id,.int .u32 c,.string (bs d)]) (t:=78) rfl) rfl (N0 1))).mono ?_;rintro e w4⟨rfl,hb4⟩;have hb4':Below w2.heap.size w2 w4:=zg (zi (N2 _ _) _) hb4;have hb4w:=zg hb2w hb4';have k44:=k42.call hb4';have k74:=k72.call hb4';clear c42 f42 l42 c72 l72;go_wp2_with fail
    refine(vY _ _ _).mono ?_;rintro e w5⟨rfl,rfl⟩;obtain⟨Wc,hWc⟩:∃Wc,Wc=((w4.alloc (.cells #[.pointer (some ⟨B,0,none⟩)] 43)).alloc (.cells #[.bool false] 4)).alloc (.cells #[.string ⟨#[109]⟩,.string (bs pk)] 9):=⟨_,rfl⟩;have hbc:Below w.heap.size w Wc:=by rw [hWc];exact pbx
    have kk0:Blk Wc w4.heap.size #[.pointer (some ⟨B,0,none⟩)] 43:=by rw [hWc];exact bkx
    have kk1:Blk Wc (w4.heap.size+1) #[.bool false] 4:=by rw [hWc];exact bkx
    have kk2:Blk Wc (w4.heap.size+1+1) #[.string ⟨#[109]⟩,.string (bs pk)] 9:=by rw [hWc];exact bkx
    have k4c:Blk Wc w.heap.size #[.int .i64 0,.int .u32 0,.string ⟨#[]⟩] 78:=by rw [hWc];exact((k44.alloc _).alloc _).alloc _
    have k7c:Blk Wc (w.heap.size+1) #[.int .i64 n.id,.int .u32 c,.string (bs d)] 78:=by rw [hWc];exact((k74.alloc _).alloc _).alloc _
    have hz4:=hb4w.size;go_wp2_with fail
    rw [← hWc];clear hWc;refine(hkp.out Wc hbc w4.heap.size (w4.heap.size+1) _ hz4 (by omega) kk0 kk1 kk2).mono ?_;rintro e w6⟨rfl,ow6,hs6,hN6,hkept⟩;have k46:=k4c.kept (hkept _ (N0 _) k4c.lt).1;have k76:=k7c.kept (hkept _ (by omega) k7c.lt).1;have ho46:=(hkept _ (N0 _) k4c.lt).2;have ho76:=(hkept _ (by omega) k7c.lt).2;have c46:=k46.cell;have f46:=k46.frozen;have l46:=k46.lt;obtain⟨px6,sb6,lb6,pb6,av6,hI⟩:=hN6;have hal6:m.acc.length=n.acc.length:=by rw [hka.out]
    have kB6:=hI.blk;obtain⟨va6,vc6,hav6⟩:=hI.row.src.shape;subst hav6;unfold zz at kB6;have hI7:=(zx.loc B px6 sb6 lb6 pb6 _ m t).below hI (zo (zi (N2 w6.heap.size w6) (.cells #[.int .i64 n.id,.int .u32 c,.string (bs d)] 78)));have hsrc7:Src (w6.alloc (.cells #[.int .i64 n.id,.int .u32 c,.string (bs d)] 78)).drew (.slice (some ⟨w6.heap.size,0,none⟩) 1 1) 3 1 #[.int .i64 n.id,.int .u32 c,.string (bs d)].toList:=jM (n:=1) (size:=3) (cap:=1) (Blk.drew (Blk.new (w:=w6) (cs:=#[.int .i64 n.id,.int .u32 c,.string (bs d)]) (t:=78) rfl)) rfl (N0 1);obtain⟨v',W8,hrun,hrow8,hgr,hown⟩:=zT zcc hI7.row hsrc7 (jq [((n.id,c),d)]) (by rw [hal6];omega) 42
    have hne4:∀g,(Value.slice va6 m.acc.length vc6).ownBlock=some g->g≠B/\g≠w.heap.size+1/\g≠w.heap.size:=λg hg=>by
     refine⟨hI.row.ne_blk hI.blk (by decide) hg,λe=>?_,λe=>?_⟩
     ·have h1:=hI.rown g hg
      rw [e,ho76] at h1;simp at h1
     ·have h1:=hI.rown g hg
      rw [e,ho46] at h1;simp at h1
    have kB8:=kB6.kept (w':=W8) ((hgr.block B (by have:=kB6.lt;simp;omega) (λe=>(hne4 B e.symm).1 rfl)).trans (U4 w6 _ B kB6.lt));have k78:=k76.kept (w':=W8) ((hgr.block _ (by have:=k76.lt;simp;omega) (λe=>(hne4 _ e.symm).2.1 rfl)).trans (U4 w6 _ _ k76.lt));obtain⟨hs9,hI9⟩:=hI7.setAcc [((n.id,c),d)] hrow8 hgr hown;obtain⟨sa,sm,sc,rfl⟩:=hrow8.shape;have cB8:=kB8.cell;have fB8:=kB8.frozen;have lB8:=kB8.lt;replace hrow8:=hid hrow8;replace hown:=hid hown;replace hne4:=hid hne4;replace hrun:=hid hrun;replace hal6:=hid hal6;go_wp2_with fail
    refine zd [O 0,O 1,O 2,O 3,O 4,O 5,E 6,E 7,O 8,O 9,E 10] (some 10) (λw'=>Blk w' B #[.pointer (some ⟨px6,0,none⟩),.int .i64 m.id,.int .i64 m.version,.slice none 0 0,.pointer (some ⟨sb6,0,none⟩),.pointer (some ⟨lb6,0,none⟩),.pointer (some ⟨pb6,0,none⟩),.slice va6 m.acc.length vc6,.int .i64 (m.offered:Nat),.int .i64 (m.applied:Nat),.int .i64 m.wanted,.bool m.down] 98/\Blk w' (w.heap.size+1) #[.int .i64 n.id,.int .u32 c,.string (bs d)] 78/\True) (by kernel_rfl) (by kernel_rfl) ⟨kB6.drew,k76.drew,trivial⟩ ?_;clear cB8 fB8
    (repeat (refine za (v:=?_) rfl rfl (λw' h=>?_) (λK k=>?_);rotate_left;obtain⟨f1,f2,_⟩:=h;have e1:=f1.cell;have e2:=f2.cell;go_simp;(try with_reducible rfl);go_simp;refine k _ ?_;clear k K))
    refine zc rfl (λK hK=>?_);go_wp2;refine hK.out _ _ (λ_=>⟨(kB6.alloc _).drew,(k76.alloc _).drew,trivial⟩) ?_;clear hK K;refine zc rfl (λK hK=>?_);refine zw rfl _ _ _ rfl rfl rfl hrun.out ?_;unfold wpList;refine hK.out _ _ (λ_=>⟨kB8,k78,trivial⟩) ?_;clear hK K
    (repeat (refine za (v:=?_) rfl rfl (λw' h=>?_) (λK k=>?_);rotate_left;obtain⟨f1,f2,_⟩:=h;have e1:=f1.cell;have e2:=f2.cell;go_simp;(try with_reducible rfl);go_simp;refine k _ ?_;clear k K))
    have fB8:=kB8.frozen;have cB8:=kB8.cell;refine zc rfl (λK hK=>?_);go_wp2;refine hK.out _ _ (λhh=>absurd rfl hh) ?_;clear hK K fB8 cB8;refine ze ?_
    generalize hO9:ow6.ext (w6.alloc (.cells #[.int .i64 n.id,.int .u32 c,.string (bs d)] 78)).drew.heap.size (λk=>(Value.slice sa sm sc).ownBlock=some k) (t++ [4])=ow9 at hs9 hI9
    have ho49:ow9 w.heap.size=[]:=by rw [← hO9];exact(Own.ext_old (by have:=k46.lt;simp;omega)).trans ho46
    have ho79:ow9 (w.heap.size+1)=[]:=by rw [← hO9];exact(Own.ext_old (by have:=k76.lt;simp;omega)).trans ho76
    have hneD:w.heap.size≠B:=by omega
    have hneD1:w.heap.size+1≠B:=by omega
    have k48:=(k46.kept (w':=W8) ((hgr.block _ (by have:=k46.lt;simp;omega) (λe=>(hne4.out _ e.symm).2.2 rfl)).trans (U4 w6 _ _ k46.lt))).other (p:=⟨B,7,none⟩) hneD (.slice sa sm sc);have k79:=k78.other (p:=⟨B,7,none⟩) hneD1 (.slice sa sm sc);have hoff:=Zx B _ t ow9 _ ⟨_,_,_,_,_,hI9⟩ (by show(m.acc++ [((n.id,c),d)]).length<=_;rw [N1,hal6.out];simp;omega)
    have hfu:jG ((m.acc++ [((n.id,c),d)]).length+1) {m with acc:=m.acc++ [((n.id,c),d)] } =jG c {m with acc:=n.acc++ [((n.id,c),d)] } :=by
     rw [hka.out,N1,U2,hc.out];exact Xa c _ (by show(n.acc++_).length<=_;rw [N1,U2,hc.out];omega)
    rw [hfu] at hoff;have hsA:zq t ow w ow9 (W8.setCell ⟨B,7,none⟩ (.slice sa sm sc)):=hs6.trans ((zq.of_below t ow6 (zo (zi (N2 w6.heap.size w6) _))).trans hs9);replace hoff:=hid hoff;go_wp2_with fail
    refine hoff.out.mono ?_;rintro e w10⟨rfl,ow10,hs10,hN10⟩;have k410:=k48.kept (hs10.block k48.lt (by rw [ho49];exact zj ht));have k710:=k79.kept (hs10.block k79.lt (by rw [ho79];exact zj ht));have ho410:=(hs10.agree _ k48.lt).trans ho49;have c410:=k410.cell;have f410:=k410.frozen;have l410:=k410.lt;have c710:=k710.cell;clear c46 f46 l46;have rr:=(((k410.set (o:=0) (.int .i64 n.id)).set (o:=1) (.int .u32 c)).set (o:=2) (.string (bs d))).cell;have hsB:=hsA.trans hs10;go_wp2;exact bodyPost_ret (v:=.tuple #[.agg #[.int .i64 n.id,.int .u32 c,.string (bs d)],.int .i64 0]) (by simp [results,Tryz.results46,go_sem,rr]) rfl ⟨rfl,ow10,((hsB.setNew ⟨w.heap.size,0,none⟩ _ (N0 _)).setNew ⟨w.heap.size,1,none⟩ _ (N0 _)).setNew ⟨w.heap.size,2,none⟩ _ (N0 _),xU ht hN10 ho410 _ _ _⟩
   ·rw [if_pos hek] at hbn
    rw [hbn];have t3:(ek !=0)=true:=by simpa using hek
    replace hbn:=hid hbn;replace hek:=hid hek
    go_enter func46,ntmps46
    go_wp2_with fail
    refine hrW.out.mono ?_;rintro e w1⟨rfl,hw1⟩;obtain rfl:=hw1.symm;go_wp2_with fail
    apply ZN (Wp:=λw'=>Below w.heap.size w w'/\Blk w' w.heap.size #[.int .i64 0,.int .u32 0,.string ⟨#[]⟩] 78/\Blk w' (w.heap.size+1) #[.int .i64 n.id,.int .u32 c,.string (bs d)] 78)
    case h=>
     go_region_with fail
     all_goals go_simp
     all_goals exact ZM ⟨pbx,bkx,bkx⟩
    case' h2=>
    rintro w1⟨hb1,k41,k71⟩;have c71:=k71.cell;have l71:=k71.lt;go_wp2_with fail
    refine(hright.out _).mono ?_;rintro e w2⟨rfl,hb2⟩;have k42:=k41.call hb2;have k72:=k71.call hb2;have hb2w:=zg hb1 hb2;have c42:=k42.cell;have f42:=k42.frozen;have l42:=k42.lt;have c72:=k72.cell;have l72:=k72.lt;clear c71 l71;go_wp2_with fail
    refine(hpack.out _ _ (jM (n:=1) (size:=3) (cap:=1) (Blk.new (w:=w2) (cs:=#[.int .i64 n.id,.int .u32 c,.string (bs d)]) (t:=78) rfl) rfl (N0 1))).mono ?_;rintro e w4⟨rfl,hb4⟩;have hb4':Below w2.heap.size w2 w4:=zg (zi (N2 _ _) _) hb4;have hb4w:=zg hb2w hb4';have k44:=k42.call hb4';have k74:=k72.call hb4';clear c42 f42 l42 c72 l72;go_wp2_with fail
    refine(vY _ _ _).mono ?_;rintro e w5⟨rfl,rfl⟩;obtain⟨Wc,hWc⟩:∃Wc,Wc=((w4.alloc (.cells #[.pointer (some ⟨B,0,none⟩)] 43)).alloc (.cells #[.bool false] 4)).alloc (.cells #[.string ⟨#[109]⟩,.string (bs pk)] 9):=⟨_,rfl⟩;have hbc:Below w.heap.size w Wc:=by rw [hWc];exact pbx
    have kk0:Blk Wc w4.heap.size #[.pointer (some ⟨B,0,none⟩)] 43:=by rw [hWc];exact bkx
    have kk1:Blk Wc (w4.heap.size+1) #[.bool false] 4:=by rw [hWc];exact bkx
    have kk2:Blk Wc (w4.heap.size+1+1) #[.string ⟨#[109]⟩,.string (bs pk)] 9:=by rw [hWc];exact bkx
    have k4c:Blk Wc w.heap.size #[.int .i64 0,.int .u32 0,.string ⟨#[]⟩] 78:=by rw [hWc];exact((k44.alloc _).alloc _).alloc _
    have k7c:Blk Wc (w.heap.size+1) #[.int .i64 n.id,.int .u32 c,.string (bs d)] 78:=by rw [hWc];exact((k74.alloc _).alloc _).alloc _
    have hz4:=hb4w.size;go_wp2_with fail
    rw [← hWc];clear hWc;refine(hkp.out Wc hbc w4.heap.size (w4.heap.size+1) _ hz4 (by omega) kk0 kk1 kk2).mono ?_;rintro e w6⟨rfl,ow6,hs6,hN6,hkept⟩;have k46:=k4c.kept (hkept _ (N0 _) k4c.lt).1;have k76:=k7c.kept (hkept _ (by omega) k7c.lt).1;have ho46:=(hkept _ (N0 _) k4c.lt).2;have ho76:=(hkept _ (by omega) k7c.lt).2;have c46:=k46.cell;have f46:=k46.frozen;have l46:=k46.lt;have rr:=(((k46.set (o:=0) (.int .i64 0)).set (o:=1) (.int .u32 0)).set (o:=2) (.string ⟨#[]⟩)).cell;go_wp2;exact bodyPost_ret (v:=.tuple #[.agg #[.int .i64 0,.int .u32 0,.string ⟨#[]⟩],.int .i64 ek]) (by simp [results,Tryz.results46,go_sem,rr]) rfl (Yv (((hs6.setNew ⟨w.heap.size,0,none⟩ _ (N0 _)).setNew ⟨w.heap.size,1,none⟩ _ (N0 _)).setNew ⟨w.heap.size,2,none⟩ _ (N0 _)) (xU ht hN6 ho46 _ _ _) ek)
theorem zfo {L:zR}{k:Nat}(h:vQ L k)(e:jy)(f:Bool):(j6 L e f).2.1.length<=128*(k+1):=by
 have h1:=h.len;have h2:=za9 h.fold e;unfold j6
 split
 ·simp
 ·refine Nat.le_trans (za8 _) ?_
  unfold qo;simp only [(xS L _ f).1,N1];omega
def xV(B:Nat)(t:List Nat)(ow:Own)(w:World)(R:zp×List zy)(e:Ending)(w':World):Prop:=
 ∃v ow',e=.returned v/\zq t ow w ow' w'/\jC B R.1 t ow' w'/\Row w' 78 3 v R.2.length (R.2.flatMap zh)/\(∀g,v.ownBlock=some g->w.heap.size<=g/\ow' g=[])
theorem zfp {px sb lb pb:Nat}{av:Value}(a:Addr)(B:Nat)(n:zp)(t:List Nat)(ht:t≠ [])(ow:Own)(e:jy)(mv:Value)(w:World)(hN:zx B px sb lb pb av n t ow w)(he:jE w a)(hge:ow 2=[])
 (hm:x8 w mv e.msgs) (hmt:∀a l c,mv=.slice (some a) l c->ow a.block=[]) (hm2:e.msgs.length<=1073741824) {k:Nat} (hb:vQ n.loc k) (hk:k<=10000) (hacc:n.acc.length<=200000):
 Calls prog 162 #[.pointer (some ⟨B,0,none⟩),qV e mv] w (xV B t ow w (vJ n e)):=by
 have hf:=hb.fold;have hln:=hb.len;have heras:=hf.eras;have hb2:=Q2 hb e false;have hms:=zfo hb e false;have hal:=za9 hf e;have hae:=(zcK hf e).eras;have hge':e.ver=e.ver:=rfl;have hlt:=he.lt;have hb0:Below w.heap.size w (w.alloc (.cells #[.int .i64 e.kind,.int .u32 e.epoch,.int .i64 e.ver,mv] 241)):=pbx;have hNa:=(zx.loc B px sb lb pb av n t).cut hN hb0;have kA:Blk (w.alloc (.cells #[.int .i64 e.kind,.int .u32 e.epoch,.int .i64 e.ver,mv] 241)) w.heap.size #[.int .i64 e.kind,.int .u32 e.epoch,.int .i64 e.ver,mv] 241:=Blk.new (by simp);have hma:x8 (w.alloc (.cells #[.int .i64 e.kind,.int .u32 e.epoch,.int .i64 e.ver,mv] 241)) mv e.msgs:=Src.below hm hb0
 have hmlt:∀a l c,mv=.slice (some a) l c->(ow.cut w) a.block=[]:=λa l c hv=>by
  rcases Nat.lt_or_ge a.block w.heap.size with h|h
  ·rw [Own.cut_old h];exact hmt a l c hv
  ·exact Own.cut_new h
 have hea:jE (w.alloc (.cells #[.int .i64 e.kind,.int .u32 e.epoch,.int .i64 e.ver,mv] 241)) a:=he.below hb0 hlt;have hga:(ow.cut w) 2=[]:=by rw [Own.cut_old hlt];exact hge
 have hwrap:=λ(ow2:Own)(w2:World)(h:zq t (ow.cut w) (w.alloc (.cells #[.int .i64 e.kind,.int .u32 e.epoch,.int .i64 e.ver,mv] 241)) ow2 w2)=>zq.wrap hb0 h
 have hnewA:(ow.cut w) w.heap.size=[]:=Own.cut_new (N0 _);have hW0:∃W0,W0=w.alloc (.cells #[.int .i64 e.kind,.int .u32 e.epoch,.int .i64 e.ver,mv] 241):=⟨_,rfl⟩;obtain⟨W0,hW0⟩:=hW0
 have hpost:∀v ow2 w2 m ms,zq t (ow.cut w) W0 ow2 w2->jC B m t ow2 w2->Row w2 78 3 v ms.length (ms.flatMap zh)->(∀g,v.ownBlock=some g->w.heap.size<=g/\ow2 g=[])->xV B t ow w (m,ms) (.returned v) w2:=
  λv ow2 w2 m ms h1 h2 h3 h4=>⟨v,ow2,rfl,hwrap ow2 w2 (by rw [hW0] at h1;exact h1),h2,h3,h4⟩
 have hsz:w.heap.size<W0.heap.size:=by rw [hW0];simp
 rw [← hW0] at hNa kA hma hea;have hen:vJ n e=(jG (n.acc.length+1) {n with loc:=(j6 n.loc e (n.bad.contains (xP n e))).1,wanted:=if vk (j6 n.loc e (n.bad.contains (xP n e))).1.fold.eras=vk n.loc.fold.eras then n.wanted else 0,pool:=ZX (ZX n.pool (j6 n.loc e (n.bad.contains (xP n e))).2.1) (j6 n.loc e (n.bad.contains (xP n e))).1.held},(j6 n.loc e (n.bad.contains (xP n e))).2.1):=rfl;have hbc:n.bad.contains (xP n e)=false:=by rw [hN.bad];rfl
 rw [hbc] at hen;clear hbc;have hla:=λW h1 h2 h3=>zfn a lb n.loc (t++ [2]) (by simp) (ow.cut w) e mv false W h1 hga h2 h3 (λa l c hv=>by rw [hmlt a l c hv];exact zj (by simp)) (by have:=hf.few;omega) (by omega) hm2 ⟨hf.low,by have:=hf.high;omega⟩ (by omega) (by omega)
 have hera:=λow' W h=>Vh lb n.loc (t++ [2]) ow' W h (by omega)
 have hah:=λW h=>zhh (px:=px) (sb:=sb) (lb:=lb) (pb:=pb) (av:=av) B n t (ow.cut w) e mv W h (by omega)
 obtain⟨⟨L',ms,er⟩,hR⟩:∃R,j6 n.loc e false=R:=⟨_,rfl⟩;rw [hR] at hla hen hb2 hms;unfold Qm at hla;simp only at hla hen hb2 hms;have hera2:=λow' W h=>Vh lb L' (t++ [2]) ow' W h (by have:=hb2.fold.eras;omega)
 have hhold:=λow' W h=>zeK lb L' (t++ [2]) ow' W h (by have:=hb2.len;omega)
 have hhl:L'.held.length<=1073741824:=by have:=hb2.len;omega
 obtain⟨⟨p1,p2,p3⟩,hP⟩:∃x,vk n.loc.fold.eras=x:=⟨_,rfl⟩;obtain⟨⟨q1,q2,q3⟩,hQ⟩:∃x,vk L'.fold.eras=x:=⟨_,rfl⟩;rw [hP] at hera hen;rw [hQ] at hera2 hen;have hneq:=λW=>zj3 (q1,q2,q3) (p1,p2,p3) W
 unfold Js at hera hera2;unfold qV at hla hah⊢;unfold Js at hneq;simp only at hera hera2 hneq;have hdone:=λ(M:zp)(ow':Own) W v (hpl:jU pb n.pool (t++ [3]) ow' W) (h2:Src W v 3 ms.length (ms.flatMap zh)) h3=>Qe pb n.pool (t++ [3]) ow' v ms W hpl h2 (by omega) h3
 have hdone2:=λ(ow':Own) W v h1 h2 h3=>Qe pb (ZX n.pool ms) (t++ [3]) ow' v L'.held W h1 h2 (by omega) h3
 rw [hen];have hmonoW:Below W0.heap.size W0 W0:=N2 _ _;replace hen:=hid hen;replace hla:=hid hla;replace hera:=hid hera;replace hera2:=hid hera2;replace hhold:=hid hhold;replace hah:=hid hah;replace hR:=hid hR;replace hP:=hid hP;replace hQ:=hid hQ;replace hdone:=hid hdone;replace hdone2:=hid hdone2;replace hpost:=hid hpost;replace hmlt:=hid hmlt;clear hwrap hb2 hms hge' hmonoW;have hB0w:=hN.blk;unfold zz at hB0w;have cw:=hB0w.cell;have lw:=hB0w.lt;have hB:=hNa.blk;unfold zz at hB;clear hN hB0w
 go_enter func162,ntmps162
 go_wp2_with fail
 rw [← hW0];clear hW0 cw lw;refine(hera.out _ _ hNa.lo).mono ?_;rintro r w1⟨rfl,hb1⟩;have hbE:Below W0.heap.size W0 (w1.alloc (.cells #[.int .u32 p1,.int .i64 p2,.int .i64 p3] 197)):=pbx;have kE:Blk (w1.alloc (.cells #[.int .u32 p1,.int .i64 p2,.int .i64 p3] 197)) w1.heap.size #[.int .u32 p1,.int .i64 p2,.int .i64 p3] 197:=Blk.new (by simp);have hz1:=hb1.size;obtain⟨W1,hW1⟩:∃W1,W1=w1.alloc (.cells #[.int .u32 p1,.int .i64 p2,.int .i64 p3] 197):=⟨_,rfl⟩;have hTE:w1.heap.size<W1.heap.size:=by rw [hW1];simp
 have hnewE:(ow.cut w) w1.heap.size=[]:=Own.cut_new (by omega);go_wp2_with fail
 rw [← hW1] at hbE kE⊢;clear hW1;have hbD:Below W0.heap.size W0 W1.drew:=zo hbE;have hN1:=(zx.loc B px sb lb pb av n t).below hNa hbD;have kA1:=kA.call hbD;have kE1:Blk W1.drew w1.heap.size #[.int .u32 p1,.int .i64 p2,.int .i64 p3] 197:=kE.drew;have hea1:=hea.below hbD (by omega);have hma1:=Src.below hma hbD;have hB1:Blk W1.drew B #[.pointer (some ⟨px,0,none⟩),.int .i64 n.id,.int .i64 n.version,.slice none 0 0,.pointer (some ⟨sb,0,none⟩),.pointer (some ⟨lb,0,none⟩),.pointer (some ⟨pb,0,none⟩),av,.int .i64 (n.offered:Nat),.int .i64 (n.applied:Nat),.int .i64 n.wanted,.bool n.down] 98:=hN1.blk;clear kA kE hea hma hB;refine zd [O 0,O 1,O 2,O 3,O 4,O 5,O 6,O 7,O 8,O 9,O 10,E 11,E 12,E 13,O 14,O 15,O 16,O 17,O 18] none (λw'=>Blk w' B #[.pointer (some ⟨px,0,none⟩),.int .i64 n.id,.int .i64 n.version,.slice none 0 0,.pointer (some ⟨sb,0,none⟩),.pointer (some ⟨lb,0,none⟩),.pointer (some ⟨pb,0,none⟩),av,.int .i64 (n.offered:Nat),.int .i64 (n.applied:Nat),.int .i64 n.wanted,.bool n.down] 98/\Blk w' w.heap.size #[.int .i64 e.kind,.int .u32 e.epoch,.int .i64 e.ver,mv] 241/\True) (by kernel_rfl) (by kernel_rfl) ⟨hB1,kA1,trivial⟩ ?_
 (repeat (refine za (v:=?_) rfl rfl (λw' h=>?_) (λK k=>?_);rotate_left;obtain⟨f1,f2,_⟩:=h;have e1:=f1.cell;have e2:=f2.cell;go_simp;(try with_reducible rfl);go_simp;refine k _ ?_;clear k K))
 refine zc rfl (λK hK=>?_);go_wp2_with fail
 refine(hah.out _ hN1).mono ?_;rintro r w2⟨rfl,hb2⟩;have hB2:=hB1.call hb2;have kA2:=kA1.call hb2;go_wp2;refine hK.out _ _ (λ_=>⟨hB2,kA2,trivial⟩) ?_;clear hK K;refine zc rfl (λK hK=>?_);go_wp2_with fail
 refine(Tryz.slices_Contains_int_empty none 0 _ _).mono ?_;rintro r w3⟨rfl,hw3⟩;obtain rfl:=hw3.symm;go_wp2;refine hK.out _ _ (λ_=>⟨hB2,kA2,trivial⟩) ?_;clear hK K;have hN2:=(zx.loc B px sb lb pb av n t).below hN1 hb2;refine zc rfl (λK hK=>?_);go_wp2_with fail
 refine(hla.out _ (hea1.below hb2 (by have:=hbD.size;omega)) hN2.lo (Src.below hma1 hb2)).mono ?_;rintro r w4⟨v,ow3,rfl,hs4,hL4,hrow4,hnew4⟩;have hN4:=hN2.setLocal L' hs4 hL4;have hB4:=hN2.blkS hs4;unfold zz at hB4;have hAl:w.heap.size<w2.heap.size:=kA2.lt;have kA4:=kA2.kept (hs4.block hAl (by rw [hnewA];exact zj (by simp)));have kE4:=(kE1.call hb2).kept (hs4.block (kE1.call hb2).lt (by rw [hnewE];exact zj (by simp)));have hst4:zq t (ow.cut w) W0 ow3 w4:=(zq.of_below t _ (hbD.trans (hb2.mono hbD.size))).trans (hs4.mono (Sub.child t 2));go_wp2;refine hK.out _ _ (λ_=>⟨hB4,kA4,trivial⟩) ?_;clear hK K
 (repeat (refine za (v:=?_) rfl rfl (λw' h=>?_) (λK k=>?_);rotate_left;obtain⟨f1,f2,_⟩:=h;have e1:=f1.cell;have e2:=f2.cell;go_simp;(try with_reducible rfl);go_simp;refine k _ ?_;clear k K))
 refine ze ?_;clear hB1 hB2 kA1 kA2 kA4;go_wp2_with fail
 refine zd [O 0,O 1,O 2,O 3,O 5,E 4,O 6] none (λw'=>Blk w' B #[.pointer (some ⟨px,0,none⟩),.int .i64 n.id,.int .i64 n.version,.slice none 0 0,.pointer (some ⟨sb,0,none⟩),.pointer (some ⟨lb,0,none⟩),.pointer (some ⟨pb,0,none⟩),av,.int .i64 (n.offered:Nat),.int .i64 (n.applied:Nat),.int .i64 n.wanted,.bool n.down] 98/\Blk w' w1.heap.size #[.int .u32 p1,.int .i64 p2,.int .i64 p3] 197/\True) (by kernel_rfl) (by kernel_rfl) ⟨hB4.drew,kE4.drew,trivial⟩ ?_
 (repeat (refine za (v:=?_) rfl rfl (λw' h=>?_) (λK k=>?_);rotate_left;obtain⟨f1,f2,_⟩:=h;have e1:=f1.cell;have e2:=f2.cell;go_simp;(try with_reducible rfl);go_simp;refine k _ ?_;clear k K))
 refine zc rfl (λK hK=>?_);go_wp2_with fail
 refine(hera2.out _ _ ((zI.loc lb L' (t++ [2])).below hN4.lo (zo (N2 _ _)))).mono ?_;rintro r w5⟨rfl,hb5⟩;have hb45:Below w4.heap.size w4 w5:=zg (zo (N2 _ _)) hb5;have hB5:=hB4.call hb45;have kE5:=kE4.call hb45;go_wp2;refine hK.out _ _ (λ_=>⟨hB5,kE5,trivial⟩) ?_;clear hK K hB4 kE4 kE5 kE1
 by_cases hq:(q1,q2,q3)=(p1,p2,p3)
 ·have hd:=λW=>(hneq W).trans (by rw [show decide ((q1,q2,q3)≠(p1,p2,p3))=false by simp [hq]])
  clear hneq
  (repeat (refine za (v:=?_) rfl rfl (λw' h=>?_) (λK k=>?_);rotate_left;obtain⟨f1,f2,_⟩:=h;have e1:=f1.cell;have e2:=f2.cell;go_simp;(try with_reducible rfl);go_simp;refine k _ ?_;clear k K))
  refine ze ?_;have hN5:=(zx.loc B px sb lb pb av _ t).below hN4 hb45;have hst5:zq t (ow.cut w) W0 ow3 w5:=hst4.trans (zq.of_below t _ hb45);have hrow5:=hrow4.below hb45;replace hq:=hid hq;have cB5:=hB5.cell;have lB5:=hB5.lt;go_wp2_with fail
  refine(hdone.out n _ _ v hN5.pool hrow5.src (λa l c hv=>by subst hv;rw [(hnew4 _ rfl).2];exact zj (by simp))).mono ?_;rintro r w6⟨vd,rfl,hs6,hp6⟩;have hN6:=hN5.setPool _ hs6 hp6;have hB6:=hN5.blkS hs6;unfold zz at hB6;have hrow6:=hrow5.step hs6 (λg hg=>by rw [(hnew4 g hg).2];exact zj (by simp));clear cB5 lB5;go_wp2_with fail
  refine zd [O 0,O 1,O 2,O 3,O 4,O 5,O 6,O 7,E 8,E 9] none (λw'=>Blk w' B #[.pointer (some ⟨px,0,none⟩),.int .i64 n.id,.int .i64 n.version,.slice none 0 0,.pointer (some ⟨sb,0,none⟩),.pointer (some ⟨lb,0,none⟩),.pointer (some ⟨pb,0,none⟩),av,.int .i64 (n.offered:Nat),.int .i64 (n.applied:Nat),.int .i64 n.wanted,.bool n.down] 98/\True) (by kernel_rfl) (by kernel_rfl) ⟨hB6.drew,trivial⟩ ?_
  (repeat (refine za (v:=?_) rfl rfl (λw' h=>?_) (λK k=>?_);rotate_left;obtain⟨f1,f2,_⟩:=h;(try have e1:=f1.cell);(try have e2:=f2.cell);go_simp;(try with_reducible rfl);go_simp;refine k _ ?_;clear k K))
  refine zc rfl (λK hK=>?_);go_wp2_with fail
  refine(hhold.out _ _ ((zI.loc lb L' (t++ [2])).below hN6.lo (zo (N2 _ _)))).mono ?_;rintro r w7⟨vh,rfl,hrow7,hb7,hnew7⟩;have hb67:Below w6.heap.size w6 w7:=zg (zo (N2 _ _)) hb7;have hB7:=hB6.call hb67;go_wp2;refine hK.out _ _ (λ_=>⟨hB7,trivial⟩) ?_;clear hK K;refine zc rfl (λK hK=>?_);have hN7:=(zx.loc B px sb lb pb av _ t).cut hN6 hb67;go_wp2_with fail
  refine(hdone2.out _ _ vh hN7.pool hrow7.src (λa l c hv=>by subst hv;rw [Own.cut_new (w:=w6) (hnew7 _ rfl)];exact zj (by simp))).mono ?_;rintro r w8⟨vd2,rfl,hs8,hp8⟩;have hN8:=hN7.setPool _ hs8 hp8;have hB8:=hN7.blkS hs8;unfold zz at hB8;have hrow8:=(hrow6.below hb67).step hs8 (λg hg=>by rw [Own.cut_old (hrow6.lt hg),(hnew4 g hg).2];exact zj (by simp));have hst8:zq t (ow.cut w) W0 _ w8:=hst5.trans ((hs6.mono (Sub.child t 3)).trans (zq.wrap hb67 (hs8.mono (Sub.child t 3))));go_wp2;refine hK.out _ _ (λ_=>⟨hB8,trivial⟩) ?_;clear hK K;refine ze ?_;go_wp2_with fail
  refine(Zx B _ t _ _ ⟨_,_,_,_,_,hN8⟩ (by show n.acc.length<=_;omega)).mono ?_;rintro r w9⟨rfl,ow9,hs9,hN9⟩;have hrow9:=hrow8.step hs9 (λg hg=>by rw [Own.cut_old (hrow6.lt hg),(hnew4 g hg).2];exact zj ht);have hnew9:∀g,v.ownBlock=some g->w.heap.size<=g/\ow9 g=[]:=λg hg=>⟨by have:=(hnew4 g hg).1;have:=hb2.size;have:=hbD.size;omega,by rw [hs9.agree g (hrow8.lt hg),Own.cut_old (hrow6.lt hg)];exact(hnew4 g hg).2⟩
  replace hrow9:=hid hrow9;replace hnew9:=hid hnew9;replace hnew4:=hid hnew4;replace hnew7:=hid hnew7;clear hrow8 hrow7 hrow6 hrow5;go_wp2;go_ret
  first|rw [if_pos hq.out] |rw [if_neg hq.out] |skip
  exact hpost.out _ _ _ _ _ (hst8.trans hs9) hN9 hrow9.out hnew9.out
 ·have hd:=λW=>(hneq W).trans (by rw [show decide ((q1,q2,q3)≠(p1,p2,p3))=true from decide_eq_true hq])
  clear hneq
  (repeat (refine za (v:=?_) rfl rfl (λw' h=>?_) (λK k=>?_);rotate_left;obtain⟨f1,f2,_⟩:=h;(try have e1:=f1.cell);(try have e2:=f2.cell);go_simp;(try with_reducible rfl);go_simp;refine k _ ?_;clear k K))
  refine ze ?_;have hN5a:=(zx.loc B px sb lb pb av _ t).below hN4 hb45;have cBa:=hB5.cell;have lBa:=hB5.lt;have fBa:=hB5.frozen;have hM5:Mod (λk=>k=B) w5 (w5.setCell ⟨B,10,none⟩ (.int .i64 0)):=(Mod.refl (λk=>k=B) w5).thenSet (p:=⟨B,10,none⟩) rfl _;have hset:=hN5a.setOwn {n with loc:=L',wanted:=0} hM5 (hB5.set (o:=10) (.int .i64 0)) rfl rfl rfl rfl rfl rfl;have hrow5a:=(hrow4.below hb45).step hset.1 (λg hg=>by rw [(hnew4 g hg).2];exact zj ht);have hst5a:=(hst4.trans (zq.of_below t _ hb45)).trans hset.1;replace hset:=hid hset;replace hrow5a:=hid hrow5a;replace hq:=hid hq;go_wp2_with fail
  obtain⟨W5,hW5⟩:∃W5,W5=w5.setCell ⟨B,10,none⟩ (.int .i64 0):=⟨_,rfl⟩;rw [← hW5] at hset hst5a hrow5a⊢;clear hW5 hB5 cBa lBa fBa;have hst5:=hst5a;have hrow5:=hrow5a.out;have hN5:=hset.out.2;have hB5:=hN5.blk;unfold zz at hB5;have cB5:=hB5.cell;have lB5:=hB5.lt;go_wp2_with fail
  refine(hdone.out n _ _ v hN5.pool hrow5.src (λa l c hv=>by subst hv;rw [(hnew4 _ rfl).2];exact zj (by simp))).mono ?_;rintro r w6⟨vd,rfl,hs6,hp6⟩;have hN6:=hN5.setPool _ hs6 hp6;have hB6:=hN5.blkS hs6;unfold zz at hB6;have hrow6:=hrow5.step hs6 (λg hg=>by rw [(hnew4 g hg).2];exact zj (by simp));clear cB5 lB5;go_wp2_with fail
  refine zd [O 0,O 1,O 2,O 3,O 4,O 5,O 6,O 7,E 8,E 9] none (λw'=>Blk w' B #[.pointer (some ⟨px,0,none⟩),.int .i64 n.id,.int .i64 n.version,.slice none 0 0,.pointer (some ⟨sb,0,none⟩),.pointer (some ⟨lb,0,none⟩),.pointer (some ⟨pb,0,none⟩),av,.int .i64 (n.offered:Nat),.int .i64 (n.applied:Nat),.int .i64 (0:Int),.bool n.down] 98/\True) (by kernel_rfl) (by kernel_rfl) ⟨hB6.drew,trivial⟩ ?_
  (repeat (refine za (v:=?_) rfl rfl (λw' h=>?_) (λK k=>?_);rotate_left;obtain⟨f1,f2,_⟩:=h;(try have e1:=f1.cell);(try have e2:=f2.cell);go_simp;(try with_reducible rfl);go_simp;refine k _ ?_;clear k K))
  refine zc rfl (λK hK=>?_);go_wp2_with fail
  refine(hhold.out _ _ ((zI.loc lb L' (t++ [2])).below hN6.lo (zo (N2 _ _)))).mono ?_;rintro r w7⟨vh,rfl,hrow7,hb7,hnew7⟩;have hb67:Below w6.heap.size w6 w7:=zg (zo (N2 _ _)) hb7;have hB7:=hB6.call hb67;go_wp2;refine hK.out _ _ (λ_=>⟨hB7,trivial⟩) ?_;clear hK K;refine zc rfl (λK hK=>?_);have hN7:=(zx.loc B px sb lb pb av _ t).cut hN6 hb67;go_wp2_with fail
  refine(hdone2.out _ _ vh hN7.pool hrow7.src (λa l c hv=>by subst hv;rw [Own.cut_new (w:=w6) (hnew7 _ rfl)];exact zj (by simp))).mono ?_;rintro r w8⟨vd2,rfl,hs8,hp8⟩;have hN8:=hN7.setPool _ hs8 hp8;have hB8:=hN7.blkS hs8;unfold zz at hB8;have hrow8:=(hrow6.below hb67).step hs8 (λg hg=>by rw [Own.cut_old (hrow6.lt hg),(hnew4 g hg).2];exact zj (by simp));have hst8:zq t (ow.cut w) W0 _ w8:=hst5.trans ((hs6.mono (Sub.child t 3)).trans (zq.wrap hb67 (hs8.mono (Sub.child t 3))));go_wp2;refine hK.out _ _ (λ_=>⟨hB8,trivial⟩) ?_;clear hK K;refine ze ?_;go_wp2_with fail
  refine(Zx B _ t _ _ ⟨_,_,_,_,_,hN8⟩ (by show n.acc.length<=_;omega)).mono ?_;rintro r w9⟨rfl,ow9,hs9,hN9⟩;have hrow9:=hrow8.step hs9 (λg hg=>by rw [Own.cut_old (hrow6.lt hg),(hnew4 g hg).2];exact zj ht);have hnew9:∀g,v.ownBlock=some g->w.heap.size<=g/\ow9 g=[]:=λg hg=>⟨by have:=(hnew4 g hg).1;have:=hb2.size;have:=hbD.size;omega,by rw [hs9.agree g (hrow8.lt hg),Own.cut_old (hrow6.lt hg)];exact(hnew4 g hg).2⟩
  replace hrow9:=hid hrow9;replace hnew9:=hid hnew9;replace hnew4:=hid hnew4;replace hnew7:=hid hnew7;clear hrow8 hrow7 hrow6 hrow5;go_wp2;go_ret
  first|rw [if_pos hq.out] |rw [if_neg hq.out] |skip
  exact hpost.out _ _ _ _ _ (hst8.trans hs9) hN9 hrow9.out hnew9.out
