/- PARTS OF THE PROOF. -/
import Derived.Test.YtobnhnidffipjaaGreatDoorK48
set_option maxRecDepth 8000
set_option maxHeartbeats 4000000
open Go.Proofs.Tryz
namespace Go.Proofs.YtobnhnidffipjaaGreatDoor
section
open Go Go.RowKit Go.Shelf Go.Extern.Stop Go.Stop Go.Extern
attribute [local go_sem] Oper.semAt_some zw zm
structure zkN(s:StD)(v:Int)(S':zl)(b:Bool)(r g:Nat)(S:zl):Prop where
 runs:Xv s r g S S' b
 good:∃k L,zr v k L S/\L+16*g<=3000000000/\k+g<=100000000
def zkn(s:StD)(v:Int)(S1:zl)(N g:Nat)(σ:ZZ×zl):Prop:=∃k L f,zr v k L σ.2/\ZP s f σ.1 σ.2 S1/\L+16*(f+g)<=3000000000/\k+(f+g)<=100000000/\σ.2.nodes.length=N
theorem zkn.next {v:Int}{S1:zl}{N g:Nat}{σ:ZZ×zl}(h:zkn (zo v) v S1 N g σ){q:ZZ}(hs:XW σ.2 σ.1 q)(hy:ziU σ.2 q):zkn (zo v) v S1 N g (zhD q,(doW (zo v) σ.2 (zao q)).1):=by
 obtain⟨k,L,f,hG,hR,h1,h2,h3⟩:=h;obtain⟨f',rfl,hR'⟩:=hR.next hs hy;exact⟨k+1,L+16,f',zhG _ _ v k L rfl hG (by omega) q,hR',by omega,by omega,by rw [zjb];exact h3⟩
theorem qG(i:Int)(w:World):Calls prog 12 #[.pointer none,.int .i64 i] w λe w'=>e=.returned (.tuple #[.bool false,.int .i64 1])/\Below w.heap.size w w':=by
 refine zk func12 rfl ?_;simp only [ntmps12,R8,Nat.reduceAdd,Nat.reduceSub];go_wp2_with fail
 refine(Zu _).mono ?_;rintro e w1⟨rfl,hw1⟩;obtain rfl:=hw1.symm;go_wp2;exact jh (v:=.tuple #[.bool false,.int .i64 1]) (by simp [results,Tryz.results12,go_sem]) ⟨rfl,pbx⟩
variable {B:Nat}{K:WK}{tv:Value}{lp:Nat->Option Nat}{S:zl}{v:Int}{k0 L:Nat}{t:List Nat}{ow:Own}{a:Addr}{w:World}
theorem Zy(i:Int)(hi:i<0∨1000<i)(h:zh B K tv lp S t ow w):Calls prog 12 #[.pointer (some ⟨B,0,none⟩),.int .i64 i] w λe w'=>e=.returned (.tuple #[.bool false,.int .i64 2])/\Below w.heap.size w w':=by
 have hb1:Below w.heap.size w (w.alloc (.cells #[.pointer (some ⟨B,0,none⟩)] 24)):=zg (N2 _ _) _;have hni:=xD _ ((zh.loc B K tv lp S t).below h hb1);replace hni:=G hni;clear h
 by_cases h0:i<0
 ·have t1:decide (i<0)=true:=by simpa using h0
  refine zk func12 rfl ?_;simp only [ntmps12,R8,Nat.reduceAdd,Nat.reduceSub];go_wp2_with fail
  refine hni.out.mono ?_;rintro e w1⟨rfl,hw1⟩;obtain rfl:=hw1.symm;go_wp2;exact jh (v:=.tuple #[.bool false,.int .i64 2]) (by simp [results,Tryz.results12,go_sem]) ⟨rfl,hb1⟩
 ·have t1:decide (i<0)=false:=by simpa using h0
  have t2:decide (1000<i)=true:=by simp;omega
  refine zk func12 rfl ?_;simp only [ntmps12,R8,Nat.reduceAdd,Nat.reduceSub];go_wp2_with fail
  refine hni.out.mono ?_;rintro e w1⟨rfl,hw1⟩;obtain rfl:=hw1.symm;go_wp2;exact jh (v:=.tuple #[.bool false,.int .i64 2]) (by simp [results,Tryz.results12,go_sem]) ⟨rfl,hb1⟩
def zhH(u:Nat->Value)(bx r i:Nat)(Ds:List Nat):Act:={tmps:=#[u 0,.int .i64 (r:Nat),.pointer (some ⟨bx,0,none⟩),u 3,u 4,u 5,u 6,u 7,u 8,u 9,u 10,u 11,u 12,u 13,u 14,.int .i64 (r:Nat),.int .i64 (i:Nat),u 17,u 18,u 19,u 20,u 21,u 22,u 23,u 24,u 25,u 26,u 27,u 28],defers:=zkm Ds}
def zkO(B:Nat)(K:WK)(v:Int)(S':zl)(b:Bool)(t:List Nat)(ow:Own)(w:World)(bx r:Nat)(a':Act)(W:World):Prop:=
 ∃(i g:Nat)(S:zl)(ow':Own)(Ds:List Nat),a'=zhH (λk=>a'.tmps.getD k undef) bx r i Ds/\
  i<=r/\zkN (zo v) v S' b (r - i) g S/\zq t ow w ow' W/\zy B K S t ow' W/\Blk W bx #[.pointer (some ⟨B,0,none⟩)] 24/\ow' bx=[] /\zdl w.heap.size ow' Ds W
theorem zhI(hG:zr v k0 L S)(hv:known v=true)(ht:t≠ [])(r:Nat)(hr:r<=1000){g:Nat}{S':zl}{b:Bool}(hF:Xv (zo v) r g S S' b)(hL:L+16*g<=3000000000)(hk:k0+g<=100000000)
 (h:zy B K S t ow w) (he:jz w a) (hge:ow 2=[]):Calls prog 12 #[.pointer (some ⟨B,0,none⟩),.int .i64 (r:Nat)] w (vu B K S' t ow w (.tuple #[.bool b,.int .i64 0])):=by
 have hb1:Below w.heap.size w (w.alloc (.cells #[.pointer (some ⟨B,0,none⟩)] 24)):=zg (N2 _ _) _;have hW1:=(zy.loc B K S t).cut h hb1;have kb:Blk (w.alloc (.cells #[.pointer (some ⟨B,0,none⟩)] 24)) w.heap.size #[.pointer (some ⟨B,0,none⟩)] 24:=Blk.new rfl;have hob:(ow.cut w) w.heap.size=[]:=Own.cut_new (N0 _);have hst1:zq t ow w (ow.cut w) (w.alloc (.cells #[.pointer (some ⟨B,0,none⟩)] 24)):=zq.wrap hb1 (zq.refl _ _ _);obtain⟨tv,lp,hI1⟩:=hW1;have hni:=xD _ hI1;have t1:decide ((r:Int)<0)=false:=by simp
 have t2:decide (1000<(r:Int))=false:=by simp;omega
 have hFF:zkN (zo v) v S' b (r - 0) g S:=⟨hF,k0,L,hG,hL,hk⟩;obtain⟨w1,hw1⟩:∃x,x=w.alloc (.cells #[.pointer (some ⟨B,0,none⟩)] 24):=⟨_,rfl⟩;rw [← hw1] at hb1 hI1 kb hst1 hni;replace hni:=G hni;replace hI1:=G hI1;clear hG hF h;refine zk func12 rfl ?_;simp only [ntmps12,R8,Nat.reduceAdd,Nat.reduceSub];go_wp2_with fail
 rw [← hw1];clear hw1;refine hni.out.mono ?_;rintro e w2⟨rfl,hw2⟩;obtain rfl:=hw2.symm;go_wp2;refine wp_loop (zkO B K v S' b t ow w w.heap.size r) (λa' _=>r - (intOf (a'.tmps.getD 16 undef)).toNat) ?_ ?_
 ·exact⟨0,g,S,ow.cut w,[],rfl,Nat.zero_le _,hFF,hst1,⟨tv,lp,hI1.out⟩,kb,hob,List.nodup_nil,λD hD=>by cases hD⟩
 ·rintro a' wr⟨i,g1,S1,ow1,Ds,ha,hi,hfar,hst,⟨tv1,lp1,hI⟩,kx,hox,hmk⟩
  obtain⟨u,hu⟩:∃u,a'=zhH u w.heap.size r i Ds:=⟨_,ha⟩;clear ha hFF hst1 hI1 kb hob hni;subst hu;unfold zhH;obtain⟨hrn,k1,L1,hG1,hL1,hk1⟩:=hfar;have hrs:=zfU hG1 hI;have cx:=kx.cell
  by_cases hir:i<r
  ·have t3:decide ((i:Int)<(r:Int))=true:=by simpa using hir
   have hwi:IntKind.i64.wrap ((i:Int)+1)=(i:Int)+1:=by rw [N8];omega
   obtain⟨r',hr'⟩:∃r',r - i=r'+1:=⟨r - i - 1,by omega⟩;rw [hr'] at hrn
   cases hb:ZY S1 with
   |true=>
    rw [hb] at hrs
    obtain⟨rfl,rfl⟩:S1=S'/\b=true:=by
     cases hrn with
     |rests _=>exact⟨rfl,rfl⟩
     |round h1 _ _=>rw [hb] at h1;cases h1
    replace hrs:=G hrs;replace hI:=G hI;go_wp2_with fail
    refine hrs.out.mono ?_;rintro e w3⟨rfl,hb3⟩;have hmk3:=hmk.step ht (zq.of_below t ow1 hb3);go_wp2;refine Xx Ds w3 hmk3.1 (λD hD=>(hmk3.2 D hD).2.2.2) (v:=.tuple #[.bool true,.int .i64 0]) (by simp [results,Tryz.results12,go_sem]) ?_;have hW3:zy B K S1 t ow1 w3:=⟨_,_,(zh.loc B K tv1 lp1 S1 t).below hI.out hb3⟩;obtain⟨q1,q2⟩:=YE ht (zy.loc B K S1 t) rfl Ds w3 (λD hD=>⟨(hmk3.2 D hD).1,(hmk3.2 D hD).2.2.1⟩) hW3 (hst.trans (zq.of_below t ow1 hb3));exact⟨rfl,ow1,q2,q1⟩
   |false=>
    rw [hb] at hrs;replace hrs:=G hrs;replace hI:=G hI;go_wp2_with fail
    refine hrs.out.mono ?_;rintro e w3⟨rfl,hb3⟩;have cx3:=(kx.call hb3).cell;go_wp2_with fail
    refine(zfW B _).mono ?_;rintro e w4⟨rfl,hw4⟩
    obtain⟨f2,g2,S2,hgf,hrun,hrn2⟩:∃f2 g2 S2,g1=f2+g2/\ZP (zo v) f2 (0,0) S1 S2/\Xv (zo v) r' g2 S2 S' b:=by
     cases hrn with
     |rests h1=>rw [hb] at h1;cases h1
     |round _ h1 h2=>exact⟨_,_,_,rfl,h1,h2⟩
    subst hgf;have hb4:Below wr.heap.size wr w4:=by rw [hw4];exact zg hb3 _
    have kq4:Blk w4 w3.heap.size #[.pointer (some ⟨B,0,none⟩)] 24:=by rw [hw4];exact Blk.new rfl
    have hz3:=hb3.size;have hz4:w3.heap.size<w4.heap.size:=kq4.lt;have hI4:=(zh.loc B K tv1 lp1 S1 t).cut hI.out hb4;have hst14:zq t ow1 wr (ow1.cut wr) w4:=zq.wrap hb4 (zq.refl _ _ _);have hst4:=hst.trans hst14;have hmk4:=hmk.step ht hst14;have hoq4:(ow1.cut wr) w3.heap.size=[]:=Own.cut_new hz3;have hox4:(ow1.cut wr) w.heap.size=[]:=(Own.cut_old kx.lt).trans hox;have kx4:=kx.call hb4;have hn16:=hG1.n0;have hel:=he.lt;have he4:=he.step ht hst4 hge;have hge4:(ow1.cut wr) 2=[]:=by rw [hst4.agree _ hel];exact hge
    have hF4:zkn (zo v) v S2 S1.nodes.length g2 ((0,0),S1):=⟨k1,L1,f2,hG1,hrun,hL1,hk1,rfl⟩;obtain⟨ow4,ho4⟩:∃o,ow1.cut wr=o:=⟨_,rfl⟩;rw [ho4] at hI4 hst14 hst4 hmk4 hoq4 hox4 hge4;obtain⟨N,hN⟩:∃N,S1.nodes.length=N:=⟨_,rfl⟩;rw [hN] at hF4 hn16;obtain⟨qb,hqb⟩:∃q,w3.heap.size=q:=⟨_,rfl⟩;rw [hqb] at kq4 hoq4 hz4⊢;have hkeep:∀ow' W,zq t ow4 w4 ow' W->∀k,k<w4.heap.size->ow4 k=[] ->W.heap[k]?=w4.heap[k]?:=λow' W hs k h1 h2=>hs.block h1 (by rw [h2];exact zj ht)
    clear hw4 hrs ho4 hqb hrun hrn cx cx3 hst14;go_wp2_with fail
    refine yy (gf:=45) (lb:=#[.pointer (some ⟨qb,0,none⟩)]) rfl (enters_of func45 (by kernel_rfl) rfl)
     (zfX (zo v) v qb B K N hn16.2 t S1) (λ_=>rfl)
     (λσ X W=>∃ow',OnW t ow4 w4 (zy B K σ.2 t) ow' X W/\zkn (zo v) v S2 N g2 σ)
     (λ_ _ _=>False)
     (λσ X X' W W' h hm hx=>by obtain⟨ow',h1,h2⟩:=h;exact⟨_,h1.stab ht (zy.loc B K σ.2 t) hm hx,h2⟩)
     (λ_ _ X X' W W' h hm hx=>h)
     (λσ X W h=>by
      obtain⟨ow',h1,k',L',f',h2,h3,h4,h5,h6⟩:=h
      exact⟨kq4.kept (hkeep _ _ h1.st _ hz4 hoq4),h6,⟨_,h1.is⟩,⟨_,_,h2⟩,_,_,h3⟩)
     (λσ X W h=>by obtain⟨ow',h1,h2⟩:=h;exact⟨h1.st.size,λk hk=>(h1.xs k hk).2.1⟩)
     ⟨ow4,⟨⟨_,_,hI4⟩,zq.refl _ _ _,λk h=>h.elim⟩,hF4⟩
     6 39 (λq=> #[.int .i64 (zao q).kind,.int .i64 (zao q).node,.int .i64 (zao q).a,.int .i64 (zao q).b,.int .u32 ((zao q).mask:Nat),.string (bs (zao q).s)]) ?assign ?body ?done ?stop
    case assign=>
     intro l' x W J hJ;rw [zS] at hJ⊢;unfold opV at hJ⊢
     gi_wp2
     exact hJ
    case stop=>rintro D c X W hD hXD h;exact h.elim
    case body=>
     rintro l' σ q cb X X1 W1 W hI1⟨ow',hOn,hfr⟩⟨hsl,hyl⟩ hcb hcw hXc kc hXl _;have hnext:=hfr.next hsl hyl;obtain⟨k',L',f',h2,h3,h4,h5,h6⟩:=hfr;have kxW:=kx4.kept (hkeep _ _ hOn.st _ kx4.lt hox4);have hdo:=zdj h2 (by omega) (by omega) hv ht (zao q) (zdm q) hOn.is (he4.step ht hOn.st hge4) (by rw [hOn.st.agree _ (by have:=hst4.size;omega)];exact hge4);unfold opV at hdo;rw [zS];unfold opV;have cxW:=kxW.cell;have ccW:=kc.cell;replace hdo:=G hdo;replace hnext:=G hnext
     gi_wp2_with fail
     refine(inRound _ _ hdo.out).mono ?_;rintro e w5⟨rfl,ow5,hs5,hW5⟩
     gi_wp2
     exact⟨⟨ow5,hOn.step hs5 hW5,hnext.out⟩,hOn.saves ht hs5⟩
    case done=>
     rintro D σ X W hD hXD⟨q,hsq,heq⟩⟨ow',hOn,k',L',f',h2,h3,h4,h5,h6⟩ hdef;obtain⟨rfl,hS2⟩:=h3.fin hsq heq;have hstW:=hst4.trans hOn.st;have hmkW:=(hmk4.step ht hOn.st).cons (D:=D) (λx hx=>by have:=(hmk4.2 x hx).2.1;omega) (by have:=hst4.size;omega) (hOn.xs D hXD).2.1 (hOn.xs D hXD).2.2 hdef;have kxW:=kx4.kept (hkeep _ _ hOn.st _ kx4.lt hox4);have hoxW:ow' w.heap.size=[]:=(hOn.st.agree _ kx4.lt).trans hox4;have hfarW:zkN (zo v) v S' b (r - (i+1)) g2 σ.2:=⟨by rw [← hS2,show r - (i+1)=r' by omega];exact hrn2,k',L',h2,by omega,by omega⟩;have hisW:=hOn.is;go_wp2;refine⟨⟨i+1,g2,σ.2,ow',D::Ds,?_,by omega,hfarW,hstW,hisW,kxW,hoxW,hmkW⟩,by simp [intOf];omega⟩;rw [show(i:Int)+1=((i+1:Nat):Int)by simp];rfl
  ·obtain rfl:r=i:=by omega
   have t3:decide ((r:Int)<(r:Int))=false:=by simp
   replace hrs:=G hrs;replace hI:=G hI;go_wp2_with fail
   refine hrs.out.mono ?_;rintro e w3⟨rfl,hb3⟩;have hmk3:=hmk.step ht (zq.of_below t ow1 hb3);rw [Nat.sub_self] at hrn;obtain⟨rfl,rfl⟩:S1=S'/\b=ZY S1:=by cases hrn;exact⟨rfl,rfl⟩
   go_wp2;refine Xx Ds w3 hmk3.1 (λD hD=>(hmk3.2 D hD).2.2.2) (v:=.tuple #[.bool (ZY S1),.int .i64 0]) (by simp [results,Tryz.results12,go_sem]) ?_;have hW3:zy B K S1 t ow1 w3:=⟨_,_,(zh.loc B K tv1 lp1 S1 t).below hI.out hb3⟩;obtain⟨q1,q2⟩:=YE ht (zy.loc B K S1 t) rfl Ds w3 (λD hD=>⟨(hmk3.2 D hD).1,(hmk3.2 D hD).2.2.1⟩) hW3 (hst.trans (zq.of_below t ow1 hb3));exact⟨rfl,ow1,q2,q1⟩
end
open Go Go.RowKit Go.Shelf Go.Extern.Stop Go.Stop Go.Extern
attribute [local go_sem] Oper.semAt_some zw zm
theorem nB1:zo 1=(1,0,[]):=by kernel_rfl
def wS2:zl:=((zfV (1,0,[]) 200 50 wS1).getD (wS1,false)).1
theorem wF2:zfV (1,0,[]) 200 50 wS1=some (wS2,true):=by kernel_rfl
theorem wF3:wS2.trace.length=4:=by kernel_rfl
theorem wF4:(zt wS2 2).loc.log.length=1:=by kernel_rfl
theorem wF5:wS2.nodes.length=3:=by kernel_rfl
theorem wF6:(doW (1,0,[]) wS0 ⟨1,0,0,0,0,[120]⟩).2=0:=by kernel_rfl
structure zaq(t:List Nat)(w:World)(B:Nat)(K:WK)(S:zl)(ow:Own)(W:World):Prop where
 st:zq t (λ_=>[]) w ow W
 is:zy B K S t ow W
variable {t:List Nat}{w W W':World}{B:Nat}{K:WK}{S:zl}{ow:Own}{a:Addr}{v:Int}{k L:Nat}
theorem zaq.bel(ht:t≠ [])(h:zaq t w B K S ow W):Below w.heap.size w W:=h.st.below (N0 _) (λ_ _=>zj ht)
theorem zaq.below(h:zaq t w B K S ow W)(hb:Below W.heap.size W W'):zaq t w B K S (ow.cut W) W':=
 ⟨h.st.trans (zq.wrap hb (zq.refl _ _ _)),(zy.loc B K S t).cut h.is hb⟩
theorem zaq.err(ht:t≠ [])(h:zaq t w B K S ow W)(he:jz w a):jz W a/\ow 2=[]:=⟨he.step ht h.st rfl,h.st.agree _ he.lt⟩
def zeh(t:List Nat)(w:World)(B:Nat)(K:WK)(S:zl)(v:Value)(e:Ending)(w':World):Prop:=e=.returned v/\∃ow,zaq t w B K S ow w'
theorem zaq.does(ht:t≠ [])(h:zaq t w B K S ow W)(he:jz w a)(hG:zr v k L S)(hk:k<=100000000)(hL:L<=3000000000)(hv:known v=true)(o:OpD)(ho:zhx o):
 Calls prog 14 #[.pointer (some ⟨B,0,none⟩),opV o] W (zeh t w B K (doW (zo v) S o).1 (.int .i64 (doW (zo v) S o).2)):=by
 have h1:=h.err ht he;refine(zdj hG hk hL hv ht o ho h.is h1.1 h1.2).mono ?_;rintro e w'⟨rfl,ow',hs,hW⟩;exact⟨rfl,ow',h.st.trans hs,hW⟩
theorem zaq.fair(ht:t≠ [])(h:zaq t w B K S ow W)(he:jz w a)(hG:zr v k L S)(hv:known v=true)(r:Nat)(hr:r<=1000){g:Nat}{S':zl}{b:Bool}(hF:Xv (zo v) r g S S' b)(hL:L+16*g<=3000000000)(hk:k+g<=100000000):
 Calls prog 12 #[.pointer (some ⟨B,0,none⟩),.int .i64 (r:Nat)] W (zeh t w B K S' (.tuple #[.bool b,.int .i64 0])):=by
 have h1:=h.err ht he;refine(zhI hG hv ht r hr hF hL hk h.is h1.1 h1.2).mono ?_;rintro e w'⟨rfl,ow',hs,hW⟩;exact⟨rfl,ow',h.st.trans hs,hW⟩
theorem ZP.good {s:StD}{f:Nat}{p:ZZ}{S S':zl}(h:ZP s f p S S'):∀ {k L:Nat},s=zo v->zr v k L S->L+16*f<=3000000000->zr v (k+f) (L+16*f) S':=by
 induction h with
 |done _ _=>intro k L _ hG _;exact hG
 |step h1 h2 h3 ih=>
  rename_i p q S S' f
  intro k L hs hG hL;have:=ih hs (zhG _ _ v k L hs hG (by omega) q) (by omega)
  rwa [show k+1+f=k+(f+1)by omega,show L+16+16*f=L+16*(f+1)by omega] at this
theorem Xv.good {s:StD}{r g:Nat}{S S':zl}{b:Bool}(h:Xv s r g S S' b):∀ {k L:Nat},s=zo v->zr v k L S->L+16*g<=3000000000->zr v (k+g) (L+16*g) S':=by
 induction h with
 |none=>intro k L _ hG _;exact hG
 |rests _=>intro k L _ hG _;exact hG
 |round h1 h2 h3 ih=>
  rename_i r f g S S1 S' b
  intro k L hs hG hL;have:=ih hs (h2.good hs hG (by omega)) (by omega)
  rwa [show k+f+g=k+(f+g)by omega,show L+16*f+16*g=L+16*(f+g)by omega] at this
theorem Jp(a:Addr)(w:World)(he:jz w a):Calls prog 8 #[] w λe w'=>e=.returned (.bool true)/\Below w.heap.size w w':=by
 have hnew:=Vj a 3 (by omega) 1 65536 (by decide) (by omega) (by omega) [1] (λ_=>[]) w he;have hg0:zr 1 0 0 (vU 3 1 65536 (zo 1)):=Zs (by omega) (by omega) (by omega);have hg1:=hg0.does (by omega) ⟨1,0,0,0,0,[120]⟩ (by simp) (by simp)
 have hd2:(doW (zo 1) (vU 3 1 65536 (zo 1)) ⟨1,0,0,0,0,[120]⟩)=(wS1,0):=by
  rw [nB1];exact Prod.ext rfl wF6
 rw [hd2] at hg1;simp only at hg1;obtain⟨f,hf,hF⟩:=zee _ _ _ _ _ _ wF2;rw [← nB1] at hF;have hg2:=hF.good rfl hg1 (by omega);replace hnew:=G hnew;replace hF:=G hF;replace hg0:=G hg0;replace hg1:=G hg1;replace hg2:=G hg2;replace hd2:=G hd2
 go_enter func8,ntmps8
 go_wp2_with fail
 refine hnew.out.mono ?_;rintro e w1⟨B,K,ow1,rfl,hs1,hb1,hW1, -⟩;have h1:zaq [1] w B K (vU 3 1 65536 (zo 1)) ow1 w1:=⟨hs1,hW1⟩;have q1:=h1.does (by simp) he hg0.out (by omega) (by omega) (by decide) ⟨1,0,0,0,0,[120]⟩ ⟨by simp,by simp,by simp⟩;rw [hd2.out] at q1;clear h1 hs1 hW1 hb1;go_wp2_with fail
 refine q1.mono ?_;rintro e w2⟨rfl,ow2,h2⟩;have q2:=h2.fair (by simp) he hg1.out (by decide) 50 (by omega) hF.out (by omega) (by omega);clear q1 h2;go_wp2_with fail
 refine q2.mono ?_;rintro e w3⟨rfl,ow3,h3⟩;clear q2;go_wp2_with fail
 refine(zeb 0 1 65536 (.inl (by omega)) _).mono ?_;rintro e w4⟨rfl,hw4⟩;obtain rfl:=hw4.symm;have hb3:=h3.bel (by simp);obtain⟨tv3,lp3,hI3⟩:=h3.is;have q3:=xg w3 hI3 (by rw [wF3];omega);rw [wF3] at q3;replace hI3:=G hI3;replace h3:=G h3;go_wp2_with fail
 refine q3.mono ?_;rintro e w5⟨tvv,rfl,hrow5,hb5, -⟩;obtain⟨ta,tc,rfl⟩:=hrow5.wideV.shape;have h5:=h3.out.below hb5;obtain⟨tv5,lp5,hI5⟩:=h5.is;obtain⟨b,hnb,q4⟩:=zhw 2 (by rw [wF5];omega) (by rw [wF5];omega) w5 hI5;replace hI5:=G hI5;replace h5:=G h5;replace hnb:=G hnb;clear q3 hrow5;go_wp2_with fail
 refine q4.mono ?_;rintro e w6⟨rfl,hs6,hI6⟩;have hg6:=(hg2.out.lent (i:=2) (by rw [wF5];omega)).node (i:=2) (by show 2<(wS2.nodes).length;rw [wF5];omega);obtain⟨b',hnb',px,sb,lb,pb,av,hN⟩:=hI6.node (by omega) hg6.1;obtain rfl:b'=b:=by rw [hnb.out] at hnb';exact(Option.some.inj hnb').symm
 have hst6:=h5.out.st.trans hs6;have hb6:Below w.heap.size w w6:=hst6.below (N0 _) (λ_ _=>zj (by simp));have hlog:(zt (zjP wS2 2) 2).loc.log.length=1:=wF4;have q5:=Yu w6 hN.blk;have q6:=QK lb _ ([1] ++ [2] ++ [2]) _ w6 hN.lo (by rw [hlog];omega);rw [hlog] at q6;replace hN:=G hN;replace q6:=G q6;clear q4;go_wp2_with fail
 refine q5.mono ?_;rintro e w7⟨rfl,hw7⟩;obtain rfl:=hw7.symm;go_wp2_with fail
 refine q6.out.mono ?_;rintro e w8⟨lv,rfl,hrow8,hb8, -⟩;obtain⟨la,lc,rfl⟩:=hrow8.wideV.shape;go_wp2;go_ret
 exact⟨rfl,ze hb6 hb8⟩
