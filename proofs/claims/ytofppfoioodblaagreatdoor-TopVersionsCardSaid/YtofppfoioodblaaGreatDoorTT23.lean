/- PARTS OF THE PROOF. -/
import Derived.Test.YtofppfoioodblaaGreatDoorTT06
import Derived.Test.YtofppfoioodblaaGreatDoorTT22
set_option maxRecDepth 8000
set_option maxHeartbeats 4000000
open Go.Proofs.Tryz
namespace Go.Proofs.YtofppfoioodblaaGreatDoor
open Go Go.RowKit Go.Shelf Go.Extern.Stop Go.Stop Go.Extern
attribute [local go_sem] Oper.semAt_some zv zm
def Zv(r:jy×Int)(w:World)(e:Ending)(w':World):Prop:=
 ∃mv,e=.returned (.tuple #[qV r.1 mv,.int .i64 r.2])/\Below w.heap.size w w'/\Row w' 78 3 mv r.1.msgs.length (r.1.msgs.flatMap zh)/\∀g,mv.ownBlock=some g->w.heap.size<=g
def zi1:jy:=⟨0,0,0,[]⟩
theorem xT {w w':World}(hb:Below w.heap.size w w'):Zv (zi1,140) w (.returned (.tuple #[.agg #[.int .i64 0,.int .u32 0,.int .i64 0,.slice none 0 0],.int .i64 140])) w':=
 ⟨.slice none 0 0,rfl,hb,z7 _ _ _,by simp [Value.ownBlock]⟩
theorem zfi(s:List UInt8)(w:World):Calls prog 161 #[.string (bs s)] w (Zv (jo s) w):=by
 have hsz:=zJ s
 by_cases hbad:s.length<6∨4000<s.length
 ·have hd:jo s=(zi1,140):=by unfold jo;rw [if_pos hbad];rfl
  rw [hd];replace hd:=hid hd
  by_cases h6:s.length<6
  ·have t0:decide (((bs s).size:Int)<6)=true:=by rw [hsz];simp;omega
   replace hsz:=hid hsz;clear hbad
   go_enter func161,ntmps161
   go_wp2;exact bodyPost_ret (v:=.tuple #[.agg #[.int .i64 0,.int .u32 0,.int .i64 0,.slice none 0 0],.int .i64 140]) (by simp [results,Tryz.results161,go_sem]) rfl (xT (pbx))
  ·have t0:decide (((bs s).size:Int)<6)=false:=by rw [hsz];simp;omega
   have t1:decide ((4000:Int)<((bs s).size:Int))=true:=by rw [hsz];simp;omega
   replace hsz:=hid hsz;clear hbad
   go_enter func161,ntmps161
   go_wp2;exact bodyPost_ret (v:=.tuple #[.agg #[.int .i64 0,.int .u32 0,.int .i64 0,.slice none 0 0],.int .i64 140]) (by simp [results,Tryz.results161,go_sem]) rfl (xT (pbx))
 have t0:decide (((bs s).size:Int)<6)=false:=by rw [hsz];simp;omega
 have t1:decide ((4000:Int)<((bs s).size:Int))=false:=by rw [hsz];simp;omega
 have b6:(6:Int)<=((bs s).size:Int):=by omega
 have b5:(5:Int)<=((bs s).size:Int):=by omega
 have b5':(5:Int)<((bs s).size:Int):=by omega
 have c5:¬(bs s).size<5:=by omega
 have c6:¬(bs s).size<6:=by omega
 have hk0:0<(bs s).size:=by omega
 have hk5:5<(bs s).size:=by omega
 obtain⟨x0,hx0⟩:∃x,(bs s)[0]=x:=⟨_,rfl⟩;obtain⟨x5,hx5⟩:∃x,(bs s)[5]=x:=⟨_,rfl⟩;have hg0:s[0]?=some x0:=by rw [← hx0];exact N3 (by omega)
 have hg5:s[5]?=some x5:=by rw [← hx5];exact N3 (by omega)
 have hhd:s.head?=some x0:=by rw [List.head?_eq_getElem?];exact hg0
 have hhd5:(s.drop 5).head?=some x5:=by rw [List.head?_drop];exact hg5
 have hex:=yo s 1 5;rw [show 5 - 1=4 from rfl] at hex;have hxd:=jk s 6;have hl1:((s.drop 1).take 4).length=4:=by rw [N7,U3];omega
 have hl6:(s.drop 6).length<=4000:=by rw [U3];omega
 have hd:jo s=if(jK (s.drop 6)).2≠0 then(zi1,140)else if(jv ⟨(s.head?.getD 0).toNat,yn ((s.drop 1).take 4),((s.drop 5).head?.getD 0).toNat,(jK (s.drop 6)).1⟩)=(s,0)then(⟨(s.head?.getD 0).toNat,yn ((s.drop 1).take 4),((s.drop 5).head?.getD 0).toNat,(jK (s.drop 6)).1⟩,0)else(zi1,140):=by
  unfold jo;rw [if_neg hbad];rfl
 rw [hhd,hhd5] at hd;simp only [Option.getD_some] at hd;have hget:=λW=>xQ ((s.drop 1).take 4) (by omega) W
 rw [vK hl1] at hget;have hun:=λW=>Ql (s.drop 6) (by omega) W
 have hlen:(jK (s.drop 6)).1.length<=1073741824:=by
  unfold jK
  split
  ·simp
  ·split
   ·simp
   ·split
    ·simp
    ·rename_i hu;rw [Z4 _ _ _ hu];omega
 unfold Yt at hun
 generalize(s.drop 1).take 4=d1 at*
 generalize s.drop 6=d6 at*
 generalize yn d1=n at*
 generalize hug:jK d6=U at*
 obtain⟨l,er⟩:=U;simp only at hun hd hlen;have hwx0:IntKind.i64.wrap (x0.toNat:Int)=x0.toNat:=by have:=x0.toNat_lt;rw [N8];omega
 have hwx5:IntKind.i64.wrap (x5.toNat:Int)=x5.toNat:=by have:=x5.toNat_lt;rw [N8];omega
 have henc:=λmv W hW=>Ye ⟨x0.toNat,n,x5.toNat,l⟩ mv W hW hlen
 unfold qV at henc;simp only at henc;replace hget:=hid hget;replace hun:=hid hun;replace hhd:=hid hhd;replace hhd5:=hid hhd5;replace hg0:=hid hg0;replace hg5:=hid hg5;replace hug:=hid hug;clear hbad
 by_cases he:er=0
 ·subst he
  rw [if_neg (by simp)] at hd
  generalize hEe:(jv ⟨x0.toNat,n,x5.toNat,l⟩)=E9 at*
  obtain⟨again,ee⟩:=E9;simp only at henc;have hq:=zdV again s;replace hsz:=hid hsz;replace hEe:=hid hEe;replace henc:=hid henc
  by_cases hee:ee=0
  ·subst hee
   have t3:((0:Int) !=0)=false:=rfl
   by_cases hag:again=s
   ·subst hag
    rw [if_pos rfl] at hd;rw [hd];rw [show decide (again=again)=true by simp] at hq;replace hd:=hid hd;have hpost:∀mv W',Below w.heap.size w W'->Row W' 78 3 mv l.length (l.flatMap zh)->(∀g,mv.ownBlock=some g->w.heap.size<=g)->Zv (⟨x0.toNat,n,x5.toNat,l⟩,0) w (.returned (.tuple #[.agg #[.int .i64 (x0.toNat:Int),.int .u32 n,.int .i64 (x5.toNat:Int),mv],.int .i64 0])) W':=λmv W' h1 h2 h3=>⟨mv,rfl,h1,h2,h3⟩
    replace hpost:=hid hpost
    go_enter func161,ntmps161
    go_wp2_with fail
    refine(hget.out _).mono ?_;rintro e w1⟨rfl,hb1⟩;have k1:Blk w1 w.heap.size #[.int .i64 0,.int .u32 0,.int .i64 0,.slice none 0 0] 241:=Blk.call (bkx) hb1;have hbw1:Below w.heap.size w w1:=pbx;go_wp2_with fail
    refine(hun.out _).mono ?_;rintro e w2⟨lv,rfl,hb2,hrow,hown⟩;have k2:=k1.call hb2;have hbw2:=zg hbw1 hb2;have c2:=k2.cell;have f2:=k2.frozen;have l2:=k2.lt;clear k1;obtain⟨la,ln,lc,rfl⟩:=hrow.shape;go_wp2_with fail
    apply ZN (Wp:=λw'=>Below w2.heap.size w2 w'/\Blk w' w2.heap.size #[.int .i64 (x0.toNat:Int),.int .u32 n,.int .i64 (x5.toNat:Int),.slice la ln lc] 241)
    case h=>
     go_region_with fail
     all_goals go_simp
     all_goals exact ZM ⟨pbx,bkx⟩
    case' h2=>
    rintro w3⟨hb3,kM3⟩;have cM3:=kM3.cell;have k3:=k2.call hb3;have hrow3:=hrow.below hb3;clear c2 f2 l2 k2;go_wp2_with fail
    refine(henc.out _ _ hrow3.src).mono ?_;rintro e w4⟨rfl,hb4⟩;have kM4:=kM3.call hb4;have kA4:=k3.call hb4;have hrow4:=hrow3.below hb4;have hbw4:=zg (zg hbw2 hb3) hb4;have cM4:=kM4.cell;have cA4:=kA4.cell;have fA4:=kA4.frozen;have lA4:=kA4.lt;have rr:=((((kA4.set (o:=0) (.int .i64 x0.toNat)).set (o:=1) (.int .u32 n)).set (o:=2) (.int .i64 x5.toNat)).set (o:=3) (.slice la ln lc)).cell;have hne:∀g,(Value.slice la ln lc).ownBlock=some g->g≠w.heap.size:=λg hg=>hrow4.ne_blk kA4 (by decide) hg
    have hz1:=hbw1.size;go_wp2;refine bodyPost_ret (v:=.tuple #[.agg #[.int .i64 x0.toNat,.int .u32 n,.int .i64 x5.toNat,.slice la ln lc],.int .i64 0]) (by simp [results,Tryz.results161,go_sem,rr]) rfl (hpost.out _ _ (zn (zn (zn (zn hbw4 (by simp) _) (by simp) _) (by simp) _) (by simp) _) (hrow4.kept (λg hg=>?_)) (λg hg=>by have:=hown g hg;omega));exact(N4 _ _ _ _ (hne g hg)).trans ((N4 _ _ _ _ (hne g hg)).trans ((N4 _ _ _ _ (hne g hg)).trans (N4 _ _ _ _ (hne g hg))))
   ·rw [if_neg (by simp [hag])] at hd
    rw [hd];rw [show decide (again=s)=false by simpa using hag] at hq;replace hd:=hid hd;replace hag:=hid hag
    go_enter func161,ntmps161
    go_wp2_with fail
    refine(hget.out _).mono ?_;rintro e w1⟨rfl,hb1⟩;have k1:Blk w1 w.heap.size #[.int .i64 0,.int .u32 0,.int .i64 0,.slice none 0 0] 241:=Blk.call (bkx) hb1;have hbw1:Below w.heap.size w w1:=pbx;go_wp2_with fail
    refine(hun.out _).mono ?_;rintro e w2⟨lv,rfl,hb2,hrow,hown⟩;have k2:=k1.call hb2;have hbw2:=zg hbw1 hb2;have c2:=k2.cell;have f2:=k2.frozen;have l2:=k2.lt;clear k1;obtain⟨la,ln,lc,rfl⟩:=hrow.shape;go_wp2_with fail
    apply ZN (Wp:=λw'=>Below w2.heap.size w2 w'/\Blk w' w2.heap.size #[.int .i64 (x0.toNat:Int),.int .u32 n,.int .i64 (x5.toNat:Int),.slice la ln lc] 241)
    case h=>
     go_region_with fail
     all_goals go_simp
     all_goals exact ZM ⟨pbx,bkx⟩
    case' h2=>
    rintro w3⟨hb3,kM3⟩;have cM3:=kM3.cell;have k3:=k2.call hb3;have hrow3:=hrow.below hb3;clear c2 f2 l2 k2;go_wp2_with fail
    refine(henc.out _ _ hrow3.src).mono ?_;rintro e w4⟨rfl,hb4⟩;have kM4:=kM3.call hb4;have kA4:=k3.call hb4;have hrow4:=hrow3.below hb4;have hbw4:=zg (zg hbw2 hb3) hb4;have cM4:=kM4.cell;have cA4:=kA4.cell;have fA4:=kA4.frozen;have lA4:=kA4.lt;have rr:=((((kA4.set (o:=0) (.int .i64 0)).set (o:=1) (.int .u32 0)).set (o:=2) (.int .i64 0)).set (o:=3) (.slice none 0 0)).cell;go_wp2;exact bodyPost_ret (v:=.tuple #[.agg #[.int .i64 0,.int .u32 0,.int .i64 0,.slice none 0 0],.int .i64 140]) (by simp [results,Tryz.results161,go_sem,rr]) rfl (xT (zn (zn (zn (zn hbw4 (by simp) _) (by simp) _) (by simp) _) (by simp) _))
  ·rw [if_neg (by simp [hee])] at hd
   rw [hd];have t3:(ee !=0)=true:=by simpa using hee
   replace hd:=hid hd;replace hee:=hid hee
   go_enter func161,ntmps161
   go_wp2_with fail
   refine(hget.out _).mono ?_;rintro e w1⟨rfl,hb1⟩;have k1:Blk w1 w.heap.size #[.int .i64 0,.int .u32 0,.int .i64 0,.slice none 0 0] 241:=Blk.call (bkx) hb1;have hbw1:Below w.heap.size w w1:=pbx;go_wp2_with fail
   refine(hun.out _).mono ?_;rintro e w2⟨lv,rfl,hb2,hrow,hown⟩;have k2:=k1.call hb2;have hbw2:=zg hbw1 hb2;have c2:=k2.cell;have f2:=k2.frozen;have l2:=k2.lt;clear k1;obtain⟨la,ln,lc,rfl⟩:=hrow.shape;go_wp2_with fail
   apply ZN (Wp:=λw'=>Below w2.heap.size w2 w'/\Blk w' w2.heap.size #[.int .i64 (x0.toNat:Int),.int .u32 n,.int .i64 (x5.toNat:Int),.slice la ln lc] 241)
   case h=>
    go_region_with fail
    all_goals go_simp
    all_goals exact ZM ⟨pbx,bkx⟩
   case' h2=>
   rintro w3⟨hb3,kM3⟩;have cM3:=kM3.cell;have k3:=k2.call hb3;have hrow3:=hrow.below hb3;clear c2 f2 l2 k2;go_wp2_with fail
   refine(henc.out _ _ hrow3.src).mono ?_;rintro e w4⟨rfl,hb4⟩;have kM4:=kM3.call hb4;have kA4:=k3.call hb4;have hrow4:=hrow3.below hb4;have hbw4:=zg (zg hbw2 hb3) hb4;have cM4:=kM4.cell;have cA4:=kA4.cell;have fA4:=kA4.frozen;have lA4:=kA4.lt;have rr:=((((kA4.set (o:=0) (.int .i64 0)).set (o:=1) (.int .u32 0)).set (o:=2) (.int .i64 0)).set (o:=3) (.slice none 0 0)).cell;go_wp2;exact bodyPost_ret (v:=.tuple #[.agg #[.int .i64 0,.int .u32 0,.int .i64 0,.slice none 0 0],.int .i64 140]) (by simp [results,Tryz.results161,go_sem,rr]) rfl (xT (zn (zn (zn (zn hbw4 (by simp) _) (by simp) _) (by simp) _) (by simp) _))
 ·rw [if_pos he] at hd
  rw [hd];have t2:(er !=0)=true:=by simpa using he
  replace hsz:=hid hsz;replace hd:=hid hd;replace he:=hid he
  go_enter func161,ntmps161
  go_wp2_with fail
  refine(hget.out _).mono ?_;rintro e w1⟨rfl,hb1⟩;have k1:Blk w1 w.heap.size #[.int .i64 0,.int .u32 0,.int .i64 0,.slice none 0 0] 241:=Blk.call (bkx) hb1;have hbw1:Below w.heap.size w w1:=pbx;go_wp2_with fail
  refine(hun.out _).mono ?_;rintro e w2⟨lv,rfl,hb2,hrow,hown⟩;have k2:=k1.call hb2;have hbw2:=zg hbw1 hb2;have c2:=k2.cell;have f2:=k2.frozen;have l2:=k2.lt;clear k1;obtain⟨la,ln,lc,rfl⟩:=hrow.shape;have rr:=((((k2.set (o:=0) (.int .i64 0)).set (o:=1) (.int .u32 0)).set (o:=2) (.int .i64 0)).set (o:=3) (.slice none 0 0)).cell;go_wp2;exact bodyPost_ret (v:=.tuple #[.agg #[.int .i64 0,.int .u32 0,.int .i64 0,.slice none 0 0],.int .i64 140]) (by simp [results,Tryz.results161,go_sem,rr]) rfl (xT (zn (zn (zn (zn hbw2 (by simp) _) (by simp) _) (by simp) _) (by simp) _))
