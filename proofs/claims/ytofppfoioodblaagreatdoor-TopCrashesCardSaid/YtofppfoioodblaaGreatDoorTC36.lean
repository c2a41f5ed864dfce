/- PARTS OF THE PROOF. -/
import Derived.Test.YtofppfoioodblaaGreatDoorTC35
set_option maxRecDepth 8000
set_option maxHeartbeats 4000000
open Go.Proofs.Tryz
namespace Go.Proofs.YtofppfoioodblaaGreatDoor
section
open Go Go.RowKit Go.Shelf Go.Extern.Stop Go.Stop Go.Extern
attribute [local go_sem] Oper.semAt_some zB zp
structure zmR(s:StD)(v:Int)(S':zf)(b:Bool)(r g:Nat)(S:zf):Prop where
 runs:Vb s r g S S' b
 good:∃k L,zu v k L S/\L+16*g<=3000000000/\k+g<=100000000
def zmr(s:StD)(v:Int)(S1:zf)(N g:Nat)(σ:ZV×zf):Prop:=∃k L f,zu v k L σ.2/\xz s f σ.1 σ.2 S1/\L+16*(f+g)<=3000000000/\k+(f+g)<=100000000/\σ.2.nodes.length=N
theorem zmr.next {v:Int}{S1:zf}{N g:Nat}{σ:ZV×zf}(h:zmr (zk v) v S1 N g σ){q:ZV}(hs:VG σ.2 σ.1 q)(hy:zjA σ.2 q):zmr (zk v) v S1 N g (ziT q,(doW (zk v) σ.2 (VF q)).1):=by
 obtain⟨k,L,f,hG,hR,h1,h2,h3⟩:=h;obtain⟨f',rfl,aa⟩:=hR.next hs hy;exact⟨k+1,L+16,f',zjm _ _ v k L rfl hG (by omega) q,aa,by omega,by omega,by rw [JC];exact h3⟩
variable {B:Nat}{K:WK}{tv:Value}{lp:Nat->Option Nat}{S:zf}{v:Int}{k0 L:Nat}{t:List Nat}{ow:Own}{a:Addr}{w:World}
def zjn(u:Nat->Value)(bx r i:Nat)(Ds:List Nat):Act:={tmps:=#[u 0,.int .i64 (r:Nat),.pointer (some ⟨bx,0,none⟩),u 3,u 4,u 5,u 6,u 7,u 8,u 9,u 10,u 11,u 12,u 13,u 14,.int .i64 (r:Nat),.int .i64 (i:Nat),u 17,u 18,u 19,u 20,u 21,u 22,u 23,u 24,u 25,u 26,u 27,u 28],defers:=zmq Ds}
def zmS(B:Nat)(K:WK)(v:Int)(S':zf)(b:Bool)(t:List Nat)(ow:Own)(w:World)(bx r:Nat)(a':Act)(W:World):Prop:=
 ∃(i g:Nat)(S:zf)(ow':Own)(Ds:List Nat),a'=zjn (λk=>a'.tmps.getD k undef) bx r i Ds/\
  i<=r/\zmR (zk v) v S' b (r - i) g S/\zt t ow w ow' W/\zI B K S t ow' W/\Blk W bx #[.pointer (some ⟨B,0,none⟩)] 24/\ow' bx=[] /\zew w.heap.size ow' Ds W
theorem zjo(hG:zu v k0 L S)(hv:known v=true)(ht:t≠ [])(r:Nat)(hr:r<=1000){g:Nat}{S':zf}{b:Bool}(hF:Vb (zk v) r g S S' b)(hL:L+16*g<=3000000000)(hk:k0+g<=100000000)
 (h:zI B K S t ow w) (he:jK w a) (hge:ow 2=[]):Calls prog 11 #[.pointer (some ⟨B,0,none⟩),.int .i64 (r:Nat)] w (xK B K S' t ow w (.tuple #[.bool b,.int .i64 0])):=by
 have bk:Below w.heap.size w (w.alloc (.cells #[.pointer (some ⟨B,0,none⟩)] 24)):=zi (N2 _ _) _;have bw:=(zI.loc B K S t).cut h bk;have kb:Blk (w.alloc (.cells #[.pointer (some ⟨B,0,none⟩)] 24)) w.heap.size #[.pointer (some ⟨B,0,none⟩)] 24:=Blk.new rfl;have bu:(ow.cut w) w.heap.size=[]:=Own.cut_new (N0 _);have ao:zt t ow w (ow.cut w) (w.alloc (.cells #[.pointer (some ⟨B,0,none⟩)] 24)):=zt.wrap bk (zt.refl _ _ _);obtain⟨tv,lp,an⟩:=bw;have aw:=YI _ an;have t1:decide ((r:Int)<0)=false:=by simp
 have t2:decide (1000<(r:Int))=false:=by simp;omega
 have bt:zmR (zk v) v S' b (r - 0) g S:=⟨hF,k0,L,hG,hL,hk⟩;obtain⟨w1,a6⟩:∃x,x=w.alloc (.cells #[.pointer (some ⟨B,0,none⟩)] 24):=⟨_,rfl⟩;rw [← a6] at bk an kb ao aw;replace aw:=hid aw;replace an:=hid an;clear hG hF h;refine zm func11 rfl ?_;simp only [ntmps11,R8,Nat.reduceAdd,Nat.reduceSub];go_wp2_with fail
 rw [← a6];clear a6;refine aw.out.mono ?_;rintro e w2⟨rfl,cd⟩;obtain rfl:=cd.symm;go_wp2;refine wp_loop (zmS B K v S' b t ow w w.heap.size r) (λa' _=>r - (intOf (a'.tmps.getD 16 undef)).toNat) ?_ ?_
 ·exact⟨0,g,S,ow.cut w,[],rfl,Nat.zero_le _,bt,ao,⟨tv,lp,an.out⟩,kb,bu,List.nodup_nil,λD hD=>by cases hD⟩
 rintro a' wr⟨i,g1,S1,ae,Ds,ha,hi,a2,ba,⟨bf,bb,hI⟩,kx,ca,be⟩
 obtain⟨u,hu⟩:∃u,a'=zjn u w.heap.size r i Ds:=⟨_,ha⟩;clear ha bt ao an kb bu aw;subst hu;unfold zjn;obtain⟨aq,k1,L1,a7,b6,b5⟩:=a2;have ag:=zhk a7 hI;have cx:=kx.cell
 by_cases hir:i<r
 ·have t3:decide ((i:Int)<(r:Int))=true:=by simpa using hir
  have cm:IntKind.i64.wrap ((i:Int)+1)=(i:Int)+1:=by rw [N8];omega
  obtain⟨r',bz⟩:∃r',r - i=r'+1:=⟨r - i - 1,by omega⟩;rw [bz] at aq
  cases hb:qP S1 with
  |true=>
   rw [hb] at ag
   obtain⟨rfl,rfl⟩:S1=S'/\b=true:=by
    cases aq with
    |rests _=>exact⟨rfl,rfl⟩
    |round h1 _ _=>rw [hb] at h1;cases h1
   replace ag:=hid ag;replace hI:=hid hI;go_wp2_with fail
   refine ag.out.mono ?_;rintro e w3⟨rfl,ai⟩;have aa:=be.step ht (zt.of_below t ae ai);go_wp2;refine Qn Ds w3 aa.1 (λD hD=>(aa.2 D hD).2.2.2) (v:=.tuple #[.bool true,.int .i64 0]) (by simp [results,Tryz.results11,go_sem]) ?_;have a4:zI B K S1 t ae w3:=⟨_,_,(zl.loc B K bf bb S1 t).below hI.out ai⟩;obtain⟨q1,q2⟩:=Vi ht (zI.loc B K S1 t) rfl Ds w3 (λD hD=>⟨(aa.2 D hD).1,(aa.2 D hD).2.2.1⟩) a4 (ba.trans (zt.of_below t ae ai));exact⟨rfl,ae,q2,q1⟩
  |false=>
   rw [hb] at ag;replace ag:=hid ag;replace hI:=hid hI;go_wp2_with fail
   refine ag.out.mono ?_;rintro e w3⟨rfl,ai⟩;have b2:=(kx.call ai).cell;go_wp2_with fail
   refine(zhl B _).mono ?_;rintro e w4⟨rfl,a5⟩
   obtain⟨f2,g2,S2,b9,ay,bg⟩:∃f2 g2 S2,g1=f2+g2/\xz (zk v) f2 (0,0) S1 S2/\Vb (zk v) r' g2 S2 S' b:=by
    cases aq with
    |rests h1=>rw [hb] at h1;cases h1
    |round _ h1 h2=>exact⟨_,_,_,rfl,h1,h2⟩
   subst b9;have bd:Below wr.heap.size wr w4:=by rw [a5];exact zi ai _
   have bi:Blk w4 w3.heap.size #[.pointer (some ⟨B,0,none⟩)] 24:=by rw [a5];exact Blk.new rfl
   have b1:=ai.size;have bm:w3.heap.size<w4.heap.size:=bi.lt;have bn:=(zl.loc B K bf bb S1 t).cut hI.out bd;have ac:zt t ae wr (ae.cut wr) w4:=zt.wrap bd (zt.refl _ _ _);have af:=ba.trans ac;have am:=be.step ht ac;have al:(ae.cut wr) w3.heap.size=[]:=Own.cut_new b1;have ak:(ae.cut wr) w.heap.size=[]:=(Own.cut_old kx.lt).trans ca;have ar:=kx.call bd;have ax:=a7.n0;have ce:=he.lt;have b7:=he.step ht af hge;have ap:(ae.cut wr) 2=[]:=by rw [af.agree _ ce];exact hge
   have bl:zmr (zk v) v S2 S1.nodes.length g2 ((0,0),S1):=⟨k1,L1,f2,a7,ay,b6,b5,rfl⟩;obtain⟨az,br⟩:∃o,ae.cut wr=o:=⟨_,rfl⟩;rw [br] at bn ac af am al ak ap;obtain⟨N,hN⟩:∃N,S1.nodes.length=N:=⟨_,rfl⟩;rw [hN] at bl ax;obtain⟨qb,bo⟩:∃q,w3.heap.size=q:=⟨_,rfl⟩;rw [bo] at bi al bm⊢;have ah:∀ow' W,zt t az w4 ow' W->∀k,k<w4.heap.size->az k=[] ->W.heap[k]?=w4.heap[k]?:=λow' W hs k h1 h2=>hs.block h1 (by rw [h2];exact zj ht)
   clear a5 ag br bo ay aq cx b2 ac;go_wp2_with fail
   refine yJ (gf:=68) (lb:=#[.pointer (some ⟨qb,0,none⟩)]) rfl (enters_of func68 (by kernel_rfl) rfl)
    (zhm (zk v) v qb B K N ax.2 t S1) (λ_=>rfl)
    (λσ X W=>∃ow',OnW t az w4 (zI B K σ.2 t) ow' X W/\zmr (zk v) v S2 N g2 σ)
    (λ_ _ _=>False)
    (λσ X X' W W' h hm hx=>by obtain⟨ow',h1,h2⟩:=h;exact⟨_,h1.stab ht (zI.loc B K σ.2 t) hm hx,h2⟩)
    (λ_ _ X X' W W' h hm hx=>h)
    (λσ X W h=>by
     obtain⟨ow',h1,k',L',f',h2,h3,h4,h5,h6⟩:=h
     exact⟨bi.kept (ah _ _ h1.st _ bm al),h6,⟨_,h1.is⟩,⟨_,_,h2⟩,_,_,h3⟩)
    (λσ X W h=>by obtain⟨ow',h1,h2⟩:=h;exact⟨h1.st.size,λk hk=>(h1.xs k hk).2.1⟩)
    ⟨az,⟨⟨_,_,bn⟩,zt.refl _ _ _,λk h=>h.elim⟩,bl⟩
    6 37 (λq=> #[.int .i64 (VF q).kind,.int .i64 (VF q).node,.int .i64 (VF q).a,.int .i64 (VF q).b,.int .u32 ((VF q).mask:Nat),.string (bs (VF q).s)]) ?assign ?body ?done ?stop
   case assign=>
    intro l' x W J hJ;rw [zW] at hJ⊢;unfold opV at hJ⊢
    gi_wp2
    exact hJ
   case stop=>rintro D c X W hD bc h;exact h.elim
   case body=>
    rintro l' σ q cb X X1 W1 W an⟨ow',ad,bp⟩⟨b0,bv⟩ ci cj cg kc ch _;have aj:=bp.next b0 bv;obtain⟨k',L',f',h2,h3,h4,h5,h6⟩:=bp;have bj:=ar.kept (ah _ _ ad.st _ ar.lt ak);have a0:=zmo h2 (by omega) (by omega) hv ht (VF q) (zjk q) (zc6 q) (zjl bv) ad.is (b7.step ht ad.st ap) (by rw [ad.st.agree _ (by have:=af.size;omega)];exact ap);unfold opV at a0;rw [zW];unfold opV;have ck:=bj.cell;have cl:=kc.cell;replace a0:=hid a0;replace aj:=hid aj
    gi_wp2_with fail
    refine(inRound _ _ a0.out).mono ?_;rintro e w5⟨rfl,b8,bq,cf⟩
    gi_wp2
    exact⟨⟨b8,ad.step bq cf,aj.out⟩,ad.saves ht bq⟩
   case done=>
    rintro D σ X W hD bc⟨q,b3,cc⟩⟨ow',ad,k',L',f',h2,h3,h4,h5,h6⟩ a3;obtain⟨rfl,b4⟩:=h3.fin b3 cc;have bh:=af.trans ad.st;have a1:=(am.step ht ad.st).cons (D:=D) (λx hx=>by have:=(am.2 x hx).2.1;omega) (by have:=af.size;omega) (ad.xs D bc).2.1 (ad.xs D bc).2.2 a3;have bj:=ar.kept (ah _ _ ad.st _ ar.lt ak);have a9:ow' w.heap.size=[]:=(ad.st.agree _ ar.lt).trans ak;have au:zmR (zk v) v S' b (r - (i+1)) g2 σ.2:=⟨by rw [← b4,show r - (i+1)=r' by omega];exact bg,k',L',h2,by omega,by omega⟩;have a8:=ad.is;go_wp2;refine⟨⟨i+1,g2,σ.2,ow',D::Ds,?_,by omega,au,bh,a8,bj,a9,a1⟩,by simp [intOf];omega⟩;rw [show(i:Int)+1=((i+1:Nat):Int)by simp];rfl
 obtain rfl:r=i:=by omega
 have t3:decide ((r:Int)<(r:Int))=false:=by simp
 replace ag:=hid ag;replace hI:=hid hI;go_wp2_with fail
 refine ag.out.mono ?_;rintro e w3⟨rfl,ai⟩;have aa:=be.step ht (zt.of_below t ae ai);rw [Nat.sub_self] at aq;obtain⟨rfl,rfl⟩:S1=S'/\b=qP S1:=by cases aq;exact⟨rfl,rfl⟩
 go_wp2;refine Qn Ds w3 aa.1 (λD hD=>(aa.2 D hD).2.2.2) (v:=.tuple #[.bool (qP S1),.int .i64 0]) (by simp [results,Tryz.results11,go_sem]) ?_;have a4:zI B K S1 t ae w3:=⟨_,_,(zl.loc B K bf bb S1 t).below hI.out ai⟩;obtain⟨q1,q2⟩:=Vi ht (zI.loc B K S1 t) rfl Ds w3 (λD hD=>⟨(aa.2 D hD).1,(aa.2 D hD).2.2.1⟩) a4 (ba.trans (zt.of_below t ae ai));exact⟨rfl,ae,q2,q1⟩
end
section
open Go Go.RowKit Go.Shelf Go.Extern.Stop Go.Stop Go.Extern
attribute [local go_sem] Oper.semAt_some zB zp
structure J6(t:List Nat)(w:World)(B:Nat)(K:WK)(S:zf)(ow:Own)(W:World):Prop where
 st:zt t (λ_=>[]) w ow W
 is:zI B K S t ow W
variable {t:List Nat}{w W W':World}{B:Nat}{K:WK}{S:zf}{ow:Own}{a:Addr}{v:Int}{k L:Nat}
theorem J6.bel(ht:t≠ [])(h:J6 t w B K S ow W):Below w.heap.size w W:=h.st.below (N0 _) (λ_ _=>zj ht)
theorem J6.below(h:J6 t w B K S ow W)(hb:Below W.heap.size W W'):J6 t w B K S (ow.cut W) W':=
 ⟨h.st.trans (zt.wrap hb (zt.refl _ _ _)),(zI.loc B K S t).cut h.is hb⟩
theorem J6.err(ht:t≠ [])(h:J6 t w B K S ow W)(he:jK w a):jK W a/\ow 2=[]:=⟨he.step ht h.st rfl,h.st.agree _ he.lt⟩
def zbp(t:List Nat)(w:World)(B:Nat)(K:WK)(S:zf)(v:Value)(e:Ending)(w':World):Prop:=e=.returned v/\∃ow,J6 t w B K S ow w'
theorem J6.doesA(ht:t≠ [])(h:J6 t w B K S ow W)(he:jK w a)(hG:zu v k L S)(hk:k<=100000000)(hL:L<=3000000000)(hv:known v=true)(o:OpD)(ho:zmm o)(hA:zcF o.kind)(hi:o.kind≠3->0<=o.node/\o.node<S.nodes.length):
 Calls prog 13 #[.pointer (some ⟨B,0,none⟩),opV o] W (zbp t w B K (doW (zk v) S o).1 (.int .i64 (doW (zk v) S o).2)):=by
 have h1:=h.err ht he;refine(zmo hG hk hL hv ht o ho hA hi h.is h1.1 h1.2).mono ?_;rintro e w'⟨rfl,ow',hs,hW⟩;exact⟨rfl,ow',h.st.trans hs,hW⟩
theorem J6.fair(ht:t≠ [])(h:J6 t w B K S ow W)(he:jK w a)(hG:zu v k L S)(hv:known v=true)(r:Nat)(hr:r<=1000){g:Nat}{S':zf}{b:Bool}(hF:Vb (zk v) r g S S' b)(hL:L+16*g<=3000000000)(hk:k+g<=100000000):
 Calls prog 11 #[.pointer (some ⟨B,0,none⟩),.int .i64 (r:Nat)] W (zbp t w B K S' (.tuple #[.bool b,.int .i64 0])):=by
 have h1:=h.err ht he;refine(zjo hG hv ht r hr hF hL hk h.is h1.1 h1.2).mono ?_;rintro e w'⟨rfl,ow',hs,hW⟩;exact⟨rfl,ow',h.st.trans hs,hW⟩
theorem xz.good {s:StD}{f:Nat}{p:ZV}{S S':zf}(h:xz s f p S S'):∀ {k L:Nat},s=zk v->zu v k L S->L+16*f<=3000000000->zu v (k+f) (L+16*f) S':=by
 induction h with
 |done _ _=>intro k L _ hG _;exact hG
 |step h1 h2 h3 ih=>
  rename_i p q S S' f
  intro k L hs hG hL;have:=ih hs (zjm _ _ v k L hs hG (by omega) q) (by omega)
  rwa [show k+1+f=k+(f+1)by omega,show L+16+16*f=L+16*(f+1)by omega] at this
theorem Vb.good {s:StD}{r g:Nat}{S S':zf}{b:Bool}(h:Vb s r g S S' b):∀ {k L:Nat},s=zk v->zu v k L S->L+16*g<=3000000000->zu v (k+g) (L+16*g) S':=by
 induction h with
 |none=>intro k L _ hG _;exact hG
 |rests _=>intro k L _ hG _;exact hG
 |round h1 h2 h3 ih=>
  rename_i r f g S S1 S' b
  intro k L hs hG hL;have:=ih hs (h2.good hs hG (by omega)) (by omega)
  rwa [show k+f+g=k+(f+g)by omega,show L+16*f+16*g=L+16*(f+g)by omega] at this
end
section
open Go Go.RowKit Go.Shelf Go.Extern.Stop Go.Stop Go.Extern
attribute [local go_sem] Oper.semAt_some zB zp
def tS0:zf:=Z7 2 2 65536 (2,0,[98])
def tS1:zf:=(doW (2,0,[98]) tS0 ⟨1,0,0,0,0,[120]⟩).1
def tS2:zf:=((zgO (2,0,[98]) 200 20 tS1).getD (tS1,false)).1
theorem nB2:zk 2=(2,0,[98]):=by kernel_rfl
theorem tF2:zgO (2,0,[98]) 200 20 tS1=some (tS2,true):=by kernel_rfl
theorem tF4:(zo tS2 1).loc.log.length=1:=by kernel_rfl
theorem tF5:tS2.nodes.length=2:=by kernel_rfl
theorem tF6:(doW (2,0,[98]) tS0 ⟨1,0,0,0,0,[120]⟩).2=0:=by kernel_rfl
variable {t:List Nat}{w W:World}{B:Nat}{K:WK}{S:zf}{ow:Own}{a:Addr}{v:Int}{k L:Nat}
theorem J6.logAt(h:J6 t w B K S ow W)(hG:zu v k L S){i:Nat}(hi:i<S.nodes.length):
 ∃b,Calls prog 16 #[.pointer (some ⟨B,0,none⟩),.int .i64 (i:Nat)] W λe W1=>e=.returned (.pointer (some ⟨b,0,none⟩))/\zt t ow W ow W1/\J6 t w B K (zbm S i) ow W1/\∃lb,
  (Calls prog 21 #[.pointer (some ⟨b,0,none⟩)] W1 λe W2=>e=.returned (.pointer (some ⟨lb,0,none⟩))/\W2=W1)/\
  Calls prog 22 #[.pointer (some ⟨lb,0,none⟩)] W1 λe W2=>∃v',e=.returned v'/\Row W2 78 3 v' (zo S i).loc.log.length ((zo S i).loc.log.flatMap zg)/\Below W1.heap.size W1 W2/\(∀g,v'.ownBlock=some g->W1.heap.size<=g):=by
 have af:=hG.n0.2;obtain⟨tv,lp,hI⟩:=h.is;obtain⟨b,ag,q⟩:=zc2 i hi af W hI;refine⟨b,q.mono ?_⟩;rintro e W1⟨rfl,ad,ac⟩;have ae:=(hG.lent hi).node (i:=i) hi;obtain⟨b',aa,px,sb,lb,pb,av,hN⟩:=ac.node (by omega) ae.1;obtain rfl:b'=b:=by rw [ag] at aa;exact(Option.some.inj aa).symm
 have ah:=(hG.node hi).2.few;exact⟨rfl,ad,⟨h.st.trans ad,tv,lp,ac⟩,lb,Y7 W1 hN.blk,zaE lb _ (t++ [i] ++ [2]) _ W1 hN.lo (by show(zo S i).loc.log.length<=_;omega)⟩
theorem zho(a:Addr)(w:World)(he:jK w a):Calls prog 8 #[] w λe w'=>e=.returned (.bool true)/\Below w.heap.size w w':=by
 have aa:=zfv a 2 (by omega) 2 65536 (by decide) (by omega) (by omega) [1] (λ_=>[]) w he;have ad:zu 2 0 0 (Z7 2 2 65536 (zk 2)):=zcG (by omega) (by omega) (by omega);have ac:=ad.doesA (by omega) ⟨1,0,0,0,0,[120]⟩ (by simp) (.inl rfl)
 have ae:(doW (zk 2) (Z7 2 2 65536 (zk 2)) ⟨1,0,0,0,0,[120]⟩)=(tS1,0):=by
  rw [nB2];exact Prod.ext rfl tF6
 rw [ae] at ac;simp only at ac;obtain⟨f,hf,hF⟩:=zfn _ _ _ _ _ _ tF2;rw [← nB2] at hF;have ag:=hF.good rfl ac (by omega);replace aa:=hid aa;replace hF:=hid hF;replace ad:=hid ad;replace ac:=hid ac;replace ag:=hid ag;replace ae:=hid ae
 go_enter func8,ntmps8
 go_wp2_with fail
 refine aa.out.mono ?_;rintro e w1⟨B,K,ak,rfl,ai,am,ah, -⟩;have h1:J6 [1] w B K (Z7 2 2 65536 (zk 2)) ak w1:=⟨ai,ah⟩;have q1:=h1.doesA (by simp) he ad.out (by omega) (by omega) (by decide) ⟨1,0,0,0,0,[120]⟩ ⟨by simp,by simp,by simp⟩ (.inl rfl) (λ_=>⟨by simp,by show(0:Int)<((Z7 2 2 65536 (zk 2)).nodes.length:Int);simp [Z7]⟩);rw [ae.out] at q1;clear h1 ai ah am;go_wp2_with fail
 refine q1.mono ?_;rintro e w2⟨rfl,ao,h2⟩;have q2:=h2.fair (by simp) he ac.out (by decide) 20 (by omega) hF.out (by omega) (by omega);clear q1 h2;go_wp2_with fail
 refine q2.mono ?_;rintro e w3⟨rfl,ap,h3⟩;clear q2;obtain⟨b,q3⟩:=h3.logAt ag.out (i:=1) (by rw [tF5];omega);rw [tF4] at q3;replace h3:=hid h3;go_wp2_with fail
 refine q3.mono ?_;rintro e w4⟨rfl, -,h4,lb,q4,q5⟩;have aj:=h4.bel (by simp);clear q3 h4;replace q5:=hid q5;go_wp2_with fail
 refine q4.mono ?_;rintro e w5⟨rfl,al⟩;obtain rfl:=al.symm;go_wp2_with fail
 refine q5.out.mono ?_;rintro e w6⟨lv,rfl,af,an, -⟩;obtain⟨la,lc,rfl⟩:=af.wideV.shape;go_wp2;go_ret
 exact⟨rfl,zh aj an⟩
theorem zkR {n:Nat}{lx:List zA}(h:J6 [1] w B K S ow W)(hG:zu v k L S)(hn:S.nodes.length=n)(hl:∀i,i<n->(zo S i).loc.log=lx)(hlx:lx.length<=100000):
 Calls prog 12 #[.pointer (some ⟨B,0,none⟩),.int .i64 (n:Nat),.int .i64 (lx.length:Nat)] W λe w'=>e=.returned (.bool true)/\∃S' ow',S'.trace=S.trace/\J6 [1] w B K S' ow' w':=by
 have aq:=hG.n0;rw [hn] at aq;replace hl:=hid hl;replace hn:=hid hn
 go_enter func12,ntmps12
 go_wp2
 go_loopw [7] (λp7 wr=>∃(i:Nat)(S':zf)(ow':Own),p7=.int .i64 (i:Nat)/\i<=n/\S'.nodes=S.nodes/\S'.trace=S.trace/\zu v k L S'/\J6 [1] w B K S' ow' wr) (λp7 _=>n - (intOf p7).toNat)
 case atStart=>exact⟨0,S,ow,rfl,Nat.zero_le _,rfl,rfl,hG,h⟩
 case round=>
  obtain⟨i,S2,aw,rfl,hi,ag,al,ah,h2⟩:=hrel;clear h hG
  by_cases hlt:i<n
  ·have t1:decide ((i:Int)<(n:Int))=true:=by simpa using hlt
   have t2:((lx.length:Int) !=(lx.length:Int))=false:=by simp
   have a0:IntKind.i64.wrap ((i:Int)+1)=(i:Int)+1:=by rw [N8];omega
   have ae:∀j,j<n->(zo S2 j).loc.log=lx:=λj hj=>by
    have:zo S2 j=zo S j:=by unfold zo;rw [ag]
    rw [this];exact hl.out j hj
   have au:S2.nodes.length=n:=by rw [ag];exact hn.out
   have ak:i<S2.nodes.length:=by omega
   obtain⟨b,q1⟩:=h2.logAt ah ak;rw [ae i hlt] at q1;have aj:=ah.lent ak;have ap:=aj.lent (i:=0) (show 0<S2.nodes.length by omega);have ao:(zo (zbm S2 i) 0).loc.log=lx:=ae 0 (by omega);have an:0<(zbm S2 i).nodes.length:=(show 0<S2.nodes.length by omega);replace ae:=hid ae;replace ah:=hid ah;replace aj:=hid aj;replace ap:=hid ap;replace ao:=hid ao;replace an:=hid an;replace au:=hid au;replace ak:=hid ak;replace ag:=hid ag;replace al:=hid al;replace h2:=hid h2;go_wp2_with fail
   refine q1.mono ?_;rintro e w1⟨rfl, -,h1,lb,q2,q3⟩;clear q1;replace h1:=hid h1;replace q3:=hid q3;go_wp2_with fail
   refine q2.mono ?_;rintro e w2⟨rfl,ay⟩;obtain rfl:=ay.symm;clear q2;go_wp2_with fail
   refine q3.out.mono ?_;rintro e w3⟨lv,rfl,ac,ar,am⟩;obtain⟨la,lc,rfl⟩:=ac.wideV.shape;have h3:=h1.out.below ar;obtain⟨b0,q4⟩:=h3.logAt aj.out (i:=0) an.out;rw [ao.out] at q4;clear q3;replace h3:=hid h3;replace ac:=hid ac;replace am:=hid am;replace ar:=hid ar;go_wp2_with fail
   refine q4.mono ?_;rintro e w4⟨rfl,af,h4,a4,q5,q6⟩;have ad:=ac.out.kept (w':=w4) (λg hg=>af.block (ac.out.lt hg) (by rw [Own.cut_new (am.out g hg)];exact zj (by simp)));clear q4;replace af:=hid af;replace ad:=hid ad;replace h4:=hid h4;replace q6:=hid q6;go_wp2_with fail
   refine q5.mono ?_;rintro e w5⟨rfl,az⟩;obtain rfl:=az.symm;clear q5;go_wp2_with fail
   refine q6.out.mono ?_;rintro e w6⟨a3,rfl,aa,ai, -⟩;obtain⟨a1,a2,rfl⟩:=aa.wideV.shape;have q7:=zdD _ _ lx lx w6 (ad.out.below ai).src aa.src (by omega) (by omega);rw [decide_eq_true rfl] at q7;clear q6;replace aa:=hid aa;replace ai:=hid ai;go_wp2_with fail
   refine q7.mono ?_;rintro e w7⟨rfl,ax⟩;go_wp2
   go_roundw
   case rel=>exact⟨i+1,zbm (zbm S2 i) 0,_,by simp,by omega,ag.out,al.out,ap.out,(h4.out.below ai.out).below ax⟩
   case measure=>simp [intOf];omega
  obtain rfl:i=n:=by omega
  have t1:decide ((i:Int)<(i:Int))=false:=by simp
  go_wp2;go_ret
  exact⟨rfl,S2,aw,al,h2⟩
def zlW(n:Nat)(x:Int):Nat:=((IntKind.u64.wrap x).tmod (n:Int)).toNat
theorem zjp {n:Nat}(hn:1<=n)(x:Int):(IntKind.u64.wrap x).tmod (n:Int)=(zlW n x:Int)/\zlW n x<n:=by
 unfold zlW;have h0:0<=IntKind.u64.wrap x:=by rw [IntKind.wrap_u64];omega
 rw [Int.tmod_eq_emod_of_nonneg h0];have h1:=Int.emod_nonneg (IntKind.u64.wrap x) (show(n:Int)≠0 by omega);have h2:=Int.emod_lt_of_pos (IntKind.u64.wrap x) (show(0:Int)<n by omega);omega
def zfz(w:World)(la:Option Addr)(xs:List Int):Prop:=∀(i:Nat) x,xs[i]?=some x->∃b off,la=some ⟨b,off,none⟩/\w.cell? ⟨b,off+i,none⟩=some (.int .i64 x)
theorem zfz.below {w w':World}{la:Option Addr}{xs:List Int}(h:zfz w la xs)(hb:Below w.heap.size w w'):zfz w' la xs:=λi x hx=>by
 obtain⟨b,off,e,hc⟩:=h i x hx;exact⟨b,off,e,(hb.cell (jO hc)).trans hc⟩
end
section
open Go
def zhp(y:Int):Nat:=(bits .and .i64 y 63).toNat
theorem zkS(y:Int):bits .and .i64 y 63=(zhp y:Int):=by
 have h:∃c:Nat,bits .and .i64 y 63=(c:Int):=by
  refine⟨(BitVec.ofInt 64 y &&& BitVec.ofInt 64 63).toNat,?_⟩
  have h1:(BitVec.ofInt 64 y &&& BitVec.ofInt 64 63).toNat<=63:=by
   rw [BitVec.toNat_and];exact Nat.le_trans Nat.and_le_right (by decide)
  show IntKind.i64.wrap ((BitVec.ofInt 64 y &&& BitVec.ofInt 64 63).toNat:Int)=_
  rw [N8];omega
 obtain⟨c,hc⟩:=h;unfold zhp;rw [hc];rfl
def jZ(n:Nat)(xs ys:List Int):List (Nat×Option Nat):=(List.range (min 30 xs.length)).map λk=>(zlW n (xs[k]?.getD 0),(ys[k]?).map zhp)
theorem zbq(n:Nat)(xs ys:List Int):(jZ n xs ys).length=min 30 xs.length:=by simp [jZ]
theorem zc7 {n:Nat}(hn:1<=n)(xs ys:List Int):∀x∈jZ n xs ys,x.1<n:=λx hx=>by
 obtain⟨k, -,rfl⟩:=List.mem_map.1 hx;exact(zjp hn _).2
theorem QM {n:Nat}{xs ys:List Int}{k:Nat}{x:Int}(hk:k<30)(hx:xs[k]?=some x):(jZ n xs ys).take (k+1)=(jZ n xs ys).take k++ [(zlW n x,(ys[k]?).map zhp)]:=by
 have hl:=(N6.1 hx).1;rw [List.take_add_one]
 congr 1
 unfold jZ;rw [List.getElem?_map,List.getElem?_range (by omega),Option.map_some,hx];rfl
theorem zc8 {P:List (Nat×Option Nat)->Prop}(h0:P [])(h1:∀l i,P l->P (l++ [i])):∀l,P l:=λl=>by
 have:∀k,k<=l.length->P (l.take k):=by
  intro k
  induction k with
  |zero=>intro _;simpa using h0
  |succ k ih=>
   intro hk;rw [List.take_add_one,N3 (by omega)];exact h1 _ _ (ih (by omega))
 have:=this l.length (N0 _)
 rwa [List.take_length] at this
variable {v:Int}{k L:Nat}{S:zf}{d:List UInt8}
theorem zbr(h:zu v k L S)(hL:L<=1000000000)(hd:d.length<=100)(i:Nat)(c:Option Nat):zu v (k+4) (L+64) (xY (zk v) d S i c):=by
 have key:∀W,zu v (k+1) (L+16) W->zu v (k+4) (L+64) (doW (zk v) (doW (zk v) (doW (zk v) W ⟨1,i,0,0,0,d⟩).1 ⟨7,i,0,0,0,[]⟩).1 ⟨9,i,0,0,0,[]⟩).1:=λW hW=>
  ((hW.doesA (by omega) ⟨1,i,0,0,0,d⟩ (by show d.length<=300;omega) (.inl rfl)).doesB ⟨7,i,0,0,0,[]⟩ (.inl rfl)).doesA (by omega) ⟨9,i,0,0,0,[]⟩ (by simp) (.inr (.inr (.inr (.inl rfl))))
 unfold xY
 cases c with
 |none=>exact key _ (h.mono (by omega) (by omega))
 |some c=>exact key _ (h.doesB ⟨8,i,c,0,0,[]⟩ (.inr rfl))
theorem zc9(s:StD)(d:List UInt8)(W:zf)(i:Nat)(c:Option Nat):(xY s d W i c).nodes.length=W.nodes.length:=by
 unfold xY;simp only;rw [JC,JC,JC]
 cases c with
 |none=>rfl
 |some c=>exact JC _ _ _
theorem zbs {n:Nat}(hn:1<=n/\n<=16)(hd:d.length<=100):∀(l:List (Nat×Option Nat)),l.length<=100->zu v (4*l.length) (64*l.length) (vx (zk v) d (Z7 n v 262144 (zk v)) l)/\(vx (zk v) d (Z7 n v 262144 (zk v)) l).nodes.length=n:=by
 refine zc8 ?_ ?_
 ·intro _
  exact⟨zcG hn (by omega) (by omega),by simp [vx,Z7]⟩
 intro l x ih hl
 simp only [N1,U2] at hl⊢;rw [YF,Nat.mul_add,Nat.mul_add];have:=ih (by omega);exact⟨zbr this.1 (by omega) hd x.1 x.2,by rw [zc9];exact this.2⟩
end
section
open Go Go.RowKit Go.Shelf Go.Extern.Stop Go.Stop Go.Extern
attribute [local go_sem] Oper.semAt_some zB zp
variable {t:List Nat}{w W:World}{B:Nat}{K:WK}{S:zf}{ow:Own}{a:Addr}{v:Int}{k L:Nat}
theorem J6.doesB(ht:t≠ [])(h:J6 t w B K S ow W)(he:jK w a)(hG:zu v k L S)(hk:k<=100000000)(o:OpD)(hkd:o.kind=7∨o.kind=8)(hi:0<=o.node/\o.node<S.nodes.length):
 Calls prog 13 #[.pointer (some ⟨B,0,none⟩),opV o] W (zbp t w B K (doW (zk v) S o).1 (.int .i64 (doW (zk v) S o).2)):=by
 have h1:=h.err ht he;refine(zmQ hG hk ht o hkd hi h.is h1.1 h1.2).mono ?_;rintro e w'⟨rfl,ow',hs,hW⟩;exact⟨rfl,ow',h.st.trans hs,hW⟩
theorem J6.accAt(h:J6 t w B K S ow W)(hG:zu v k L S){i:Nat}(hi:i<S.nodes.length):
 ∃b,Calls prog 16 #[.pointer (some ⟨B,0,none⟩),.int .i64 (i:Nat)] W λe W1=>e=.returned (.pointer (some ⟨b,0,none⟩))/\J6 t w B K (zbm S i) ow W1/\
  Calls prog 17 #[.pointer (some ⟨b,0,none⟩)] W1 λe W2=>∃v',e=.returned v'/\Row W2 78 3 v' (zo S i).acc.length ((zo S i).acc.flatMap zg)/\Below W1.heap.size W1 W2/\(∀g,v'.ownBlock=some g->W1.heap.size<=g):=by
 have ae:=hG.n0.2;obtain⟨tv,lp,hI⟩:=h.is;obtain⟨b,ag,q⟩:=zc2 i hi ae W hI;refine⟨b,q.mono ?_⟩;rintro e W1⟨rfl,af,ac⟩;have ad:=(hG.lent hi).node (i:=i) hi;obtain⟨b',aa,px,sb,lb,pb,av,hN⟩:=ac.node (by omega) ad.1;obtain rfl:b'=b:=by rw [ag] at aa;exact(Option.some.inj aa).symm
 have ah:=(hG.node hi).2.few;exact⟨rfl,⟨h.st.trans af,tv,lp,ac⟩,Zn W1 hN (by show(zo S i).acc.length<=_;omega)⟩
theorem J6.traceAt(h:J6 t w B K S ow W)(hn:S.trace.length<=1073741824):Calls prog 15 #[.pointer (some ⟨B,0,none⟩)] W λe W'=>
 ∃v',e=.returned v'/\Row W' 80 5 v' S.trace.length (S.trace.flatMap jf)/\Below W.heap.size W W'/\(∀g,v'.ownBlock=some g->W.heap.size<=g):=by
 obtain⟨tv,lp,hI⟩:=h.is;exact zhf W hI hn
end
section
open Go Go.RowKit Go.Shelf Go.Extern.Stop Go.Stop Go.Extern
attribute [local go_sem] Oper.semAt_some zB zp
theorem zjq {w:World}{v:Value}{l:List Int}(h:JF w v 1 (λx=>[.int .i64 x]) l):∃a c,v=.slice a l.length c/\zfz w a l:=by
 obtain⟨a,c,e,hc⟩:=h.shape (by omega) (λy=>⟨_,rfl⟩);refine⟨a,c,e,λi x hx=>?_⟩;obtain⟨b,aa,e1,h1⟩:=hc i x hx;have:=h1 0 (by omega);rw [Nat.mul_one,Nat.add_zero] at this;exact⟨b,aa,e1,this⟩
end
section
open Go
structure zhq(k:Nat)(M:Jf):Prop where
 n:M.acc.length<=16
 dn:M.del.length=M.acc.length
 ln:M.logd.length=16
 acc:∀x∈M.acc,x<=k
 del:∀x∈M.del,x<=M.log.length
 logd:∀x∈M.logd,x<=k
 log:M.log.length<=k
 nodup:(M.wait.map (·.1)).Nodup
 wait:∀p∈M.wait,zx p.2=true
theorem Qo {l:List Nat}{k:Nat}(h:∀x∈l,x<=k)(i:Nat):l[i]?.getD 0<=k:=by
 cases hc:l[i]? with
 |none=>exact Nat.zero_le _
 |some x=>exact h x (List.mem_of_getElem? hc)
theorem zjr {l:List Nat}{k y:Nat}(h:∀x∈l,x<=k)(hy:y<=k)(i:Nat):∀x∈l.set i y,x<=k:=λx hx=>by
 rcases List.mem_or_eq_of_mem_set hx with h1|h1
 ·exact h x h1
 omega
theorem zfA {K V:Type} [DecidableEq K](k:K)(v:V):∀(l:List (K×V)) (q),q∈put k v l->q=(k,v)∨q∈l
 | [],q,h=>.inl (by simpa [put] using h)
 |(a,b)::l,q,h=>by
  unfold put at h
  by_cases hk:k=a
  ·rw [if_pos hk] at h
   rcases List.mem_cons.1 h with e|e
   ·exact .inl e
   exact .inr (U7 _ e)
  rw [if_neg hk] at h
  rcases List.mem_cons.1 h with e|e
  ·exact .inr (by rw [e];exact List.mem_cons_self ..)
  rcases zfA k v l q e with e|e
  ·exact .inl e
  exact .inr (U7 _ e)
theorem zfB {K V:Type} [DecidableEq K](k:K):∀(l:List (K×V)) (q),q∈Go.Proofs.YtofppfoioodblaaGreatDoor.del k l->q∈l
 | [],q,h=>by simp [Go.Proofs.YtofppfoioodblaaGreatDoor.del] at h
 |(a,b)::l,q,h=>by
  unfold Go.Proofs.YtofppfoioodblaaGreatDoor.del at h
  split at h
  ·exact U7 _ h
  rcases List.mem_cons.1 h with e|e
  ·rw [e];exact List.mem_cons_self ..
  exact U7 _ (zfB k l q e)
theorem zlS {n:Nat}(hn:n<=16):zhq 0 (QF n):=by
 refine⟨by simpa [QF] using hn,by simp [QF],by simp [QF],λx hx=>?_,λx hx=>?_,λx hx=>?_,N0 _,by simp [QF],λp hp=>by simp [QF] at hp⟩
 ·have:=(List.mem_replicate.1 hx).2;omega
 ·have:=(List.mem_replicate.1 hx).2;omega
 have:=(List.mem_replicate.1 hx).2;omega
theorem zhq.mono {k k':Nat}{M:Jf}(h:zhq k M)(hk:k<=k'):zhq k' M:=
 ⟨h.n,h.dn,h.ln,λx hx=>Nat.le_trans (h.acc x hx) hk,h.del,λx hx=>Nat.le_trans (h.logd x hx) hk,Nat.le_trans h.log hk,h.nodup,h.wait⟩
theorem zhq.lay {k:Nat}{M M':Jf}{x:zA}(h:zhq k M)(hs:zlV M x=some M'):zhq (k+1) M'/\M'.log.length=M.log.length+1/\M'.del=M.del:=by
 unfold zlV at hs
 split at hs
 ·cases hs
  refine⟨⟨h.n,h.dn,by simpa using h.ln,λx hx=>Nat.le_succ_of_le (h.acc x hx),λx hx=>?_,zjr (λx hx=>Nat.le_succ_of_le (h.logd x hx)) (Nat.succ_le_succ (Qo h.logd _)) _,?_,h.nodup.sublist (X7 _ _),λp hp=>h.wait p (zfB _ _ _ hp)⟩,by simp,rfl⟩
  ·have:=h.del x hx
   simp only [N1,U2];omega
  have:=h.log
  simp only [N1,U2];omega
 cases hs
theorem zhq.step {k:Nat}{M M':Jf}{h:xV}(hM:zhq k M)(hs:Jp M h=some M'):zhq (k+1) M':=by
 unfold Jp at hs
 split at hs
 ·cases hs
 split at hs
 ·split at hs
  ·rename_i h2
   cases hs
   refine⟨by simpa using hM.n,by simpa using hM.dn,hM.ln,zjr (λx hx=>Nat.le_succ_of_le (hM.acc x hx)) (Nat.succ_le_succ (Qo hM.acc _)) _,hM.del,λx hx=>Nat.le_succ_of_le (hM.logd x hx),Nat.le_succ_of_le hM.log,X6 _ _ _ hM.nodup,λp hp=>?_⟩
   rcases zfA _ _ _ _ hp with e|e
   ·rw [e];exact h2.1
   exact hM.wait p e
  cases hs
 split at hs
 ·cases hs;exact hM.mono (Nat.le_succ _)
 split at hs
 ·split at hs
  ·cases hs
  rename_i M1 h1
  split at hs
  ·rename_i h2
   cases hs
   have key:zhq (k+1) M1/\M1.del=M.del:=by
    split at h1
    ·have:=hM.lay h1;exact⟨this.1,this.2.2⟩
    cases h1;exact⟨hM.mono (Nat.le_succ _),rfl⟩
   obtain⟨h3,h4⟩:=key;have aa:=(N6.1 h2).1;exact⟨h3.n,by simpa using h3.dn,h3.ln,h3.acc,zjr h3.del aa _,h3.logd,h3.log,h3.nodup,h3.wait⟩
  cases hs
 cases hs
end
section
open Go Go.RowKit Go.Shelf Go.Extern.Stop Go.Stop Go.Extern
attribute [local go_sem] Oper.semAt_some zB zp
theorem Blk.setM {w:World}{b o:Nat}{cs cs':List Value}{t:TypeId}(h:Blk w b cs.toArray t){v:Value}(he:cs.set o v=cs'):Blk (w.setCell ⟨b,o,none⟩ v) b cs'.toArray t:=by
 have h':=h.set (o:=o) v;rw [List.setIfInBounds_toArray,he] at h';exact h'
theorem Blk.cellM {w:World}{b:Nat}{cs:List Value}{t:TypeId}(h:Blk w b cs.toArray t){o:Nat}{v:Value}(he:cs[o]?=some v):w.cell? ⟨b,o,none⟩=some v:=by
 rw [h.cell,List.getElem?_toArray,he]
def Zr(p:Nat×Nat):List Value:=[.int .u32 (p.1:Nat),.int .i64 (p.2:Nat)]
def vR(sb mb n:Nat)(logd:List Nat)(lv:Value):List Value:=[.slice (some ⟨sb,0,none⟩) n n,.map (some mb)] ++(logd.map (λc=>Value.int .u32 (c:Nat))++ [lv])
def vB(B sb:Nat)(M:Jf)(t:List Nat)(ow:Own)(W:World):Prop:=
 ∃(mb:Nat)(lv:Value)(sl:List (Nat×Nat)),Blk W B (vR sb mb sl.length M.logd lv).toArray 141/\Blk W sb (sl.flatMap Zr).toArray 202/\z6 W mb idV (M.wait.map λq=>(q.1,y7 q.2))/\Row W 78 3 lv M.log.length (M.log.flatMap zg)/\sl.map (·.1)=M.acc/\sl.map (·.2)=M.del/\
  ow B=t/\ow sb=t/\ow mb=t/\∀g,lv.ownBlock=some g->ow g=t
theorem vB.loc(B sb:Nat)(M:Jf)(t:List Nat):yI t (vB B sb M t):=by
 rintro ow ow' W W'⟨mb,lv,sl,hB,hS,hM,hR,e1,e2,o1,o2,o3,o4⟩ hs hk;have kB:=hk B hB.lt (by rw [o1];exact Sub.rfl' t);have kS:=hk sb hS.lt (by rw [o2];exact Sub.rfl' t);have kM:=hk mb hM.lt (by rw [o3];exact Sub.rfl' t);have kR:=λg hg=>hk g (hR.lt hg) (by rw [o4 g hg];exact Sub.rfl' t)
 exact⟨mb,lv,sl,hB.kept kB.2,hS.kept kS.2,hM.kept kM.2,hR.kept (λg hg=>(kR g hg).2),e1,e2,kB.1.trans o1,kS.1.trans o2,kM.1.trans o3,λg hg=>(kR g hg).1.trans (o4 g hg)⟩
def J2(B sb:Nat)(M:Jf)(t:List Nat)(ow:Own)(w:World)(v:Value)(e:Ending)(w':World):Prop:=
 e=.returned v/\∃ow',zt t ow w ow' w'/\vB B sb M t ow' w'
theorem qa:∀ {l:List (Nat×Nat)} {i j:Nat} {s:Nat×Nat},l[i]?=some s->j<2->(l.flatMap Zr)[i*2+j]?=(Zr s)[j]?
 | [],i,j,s,h,_=>by simp at h
 |x::l,0,j,s,h,hj=>by
  simp only [List.getElem?_cons_zero,Option.some.injEq] at h;subst h;rw [List.flatMap_cons,U8 (by simp only [Zr,List.length_cons,List.length_nil];omega),Nat.zero_mul,Nat.zero_add]
 |x::l,i+1,j,s,h,hj=>by
  simp only [List.getElem?_cons_succ] at h;rw [List.flatMap_cons,U6 (by simp only [Zr,List.length_cons,List.length_nil];omega)];rw [← qa h hj]
  congr 1
  simp only [Zr,List.length_cons,List.length_nil];omega
theorem Vj {v:Value}{j:Nat}{s s':Nat×Nat}(hj:j<2)(he:(Zr s).set j v=Zr s'):∀ {l:List (Nat×Nat)} {i:Nat},l[i]?=some s->(l.flatMap Zr).set (i*2+j) v=(l.set i s').flatMap Zr
 | [],i,h=>by simp at h
 |x::l,0,h=>by
  simp only [List.getElem?_cons_zero,Option.some.injEq] at h;subst h;rw [List.set_cons_zero,List.flatMap_cons,List.flatMap_cons,List.set_append_left _ _ (by simp only [Zr,List.length_cons,List.length_nil];omega),Nat.zero_mul,Nat.zero_add,he]
 |x::l,i+1,h=>by
  simp only [List.getElem?_cons_succ] at h;have h5:(Zr x).length=2:=rfl;rw [List.set_cons_succ,List.flatMap_cons,List.flatMap_cons,List.set_append_right _ _ (by rw [h5];omega),h5,show(i+1)*2+j - 2=i*2+j by omega,Vj hj he h]
section
variable {sb mb n:Nat}{logd:List Nat}{lv:Value}
theorem VJ(h1:logd.length=16){q:Nat}(hq:q<16):(vR sb mb n logd lv)[2+q]?=some (.int .u32 (logd[q]?.getD 0:Nat)):=by
 unfold vR;rw [U6 (by simp),U8 (by simp;omega),List.getElem?_map];simp only [List.length_cons,List.length_nil,Nat.add_sub_cancel_left];rw [N3 (by omega)];rfl
theorem qr(h1:logd.length=16):(vR sb mb n logd lv)[18]?=some lv:=by
 unfold vR;rw [U6 (by simp),U6 (by simp;omega)];simp [h1]
theorem zhr(h1:logd.length=16){q:Nat}(hq:q<16)(c:Nat):(vR sb mb n logd lv).set (2+q) (.int .u32 (c:Nat))=vR sb mb n (logd.set q c) lv:=by
 unfold vR;rw [List.set_append_right _ _ (by simp),List.set_append_left _ _ (by simp;omega)];simp only [List.length_cons,List.length_nil,Nat.add_sub_cancel_left];rw [List.map_set]
theorem zjs(h1:logd.length=16)(lv':Value):(vR sb mb n logd lv).set 18 lv'=vR sb mb n logd lv':=by
 unfold vR;rw [List.set_append_right _ _ (by simp),List.set_append_right _ _ (by simp;omega)];simp [h1]
end
theorem zjt {B sb:Nat}{M:Jf}{t:List Nat}{ow:Own}(w:World)(h:vB B sb M t ow w):Calls prog 71 #[.pointer (some ⟨B,0,none⟩)] w λe w'=>e=.returned (.bool false)/\w'=w:=by
 obtain⟨mb,lv,sl,hB, -⟩:=h;have e1:w.cell? ⟨B,1,none⟩=some (.map (some mb)):=hB.cellM rfl;have h0:=QQ mb w
 go_enter func71,ntmps71
 go_wp2;go_ret
 exact⟨rfl,rfl⟩
theorem zda {B sb:Nat}{M:Jf}{t:List Nat}{ow:Own}(i:Int)(hi:0<=i/\i<M.acc.length)(w:World)(h:vB B sb M t ow w):Calls prog 75 #[.pointer (some ⟨B,0,none⟩),.int .i64 i] w λe w'=>e=.returned (.bool true)/\w'=w:=by
 obtain⟨mb,lv,sl,hB,hS,hM,hR,ea, -⟩:=h;have hn:sl.length=M.acc.length:=by rw [← ea];simp
 have e0:w.cell? ⟨B,0,none⟩=some (.slice (some ⟨sb,0,none⟩) sl.length sl.length):=hB.cellM rfl;have t1:decide (0<=i)=true:=by simpa using hi.1
 have t2:decide (i<(sl.length:Int))=true:=by simp;omega
 go_enter func75,ntmps75
 go_wp2;go_ret
 exact⟨rfl,rfl⟩
theorem zdb {B:Nat}(k n i:Int)(c:Nat)(d:List UInt8)(w:World):Calls prog 73 #[.pointer (some ⟨B,0,none⟩),.agg #[.int .i64 k,.int .i64 n,.int .i64 i,.int .u32 c,.string (bs d)]] w λe w'=>e=.returned (.bool true)/\Below w.heap.size w w':=by
 go_enter func73,ntmps73
 go_wp2;go_ret
 exact⟨rfl,pbx⟩
def Jj(n:Nat):Array Value:=((List.replicate n (0,0)).flatMap Zr).toArray
theorem zk5:Yc prog 137 202 2 16 (.agg #[.int .u32 0,.int .i64 0]):=⟨Tryz.underlying137,by kernel_rfl,rfl,by decide,by decide⟩
theorem zez(n:Nat)(hn:n<=16):madeCells #[.int .u32 0,.int .i64 0] (n*2)=Jj n:=by
 rcases(by omega:n=0∨n=1∨n=2∨n=3∨n=4∨n=5∨n=6∨n=7∨n=8∨n=9∨n=10∨n=11∨n=12∨n=13∨n=14∨n=15∨n=16)with rfl|rfl|rfl|rfl|rfl|rfl|rfl|rfl|rfl|rfl|rfl|rfl|rfl|rfl|rfl|rfl|rfl<;>kernel_rfl
theorem zeA(n:Nat)(hn:n<=16)(W:World):(Instr.makeSlice 137 (.int .i64 (n:Nat)) (.int .i64 (n:Nat))).run prog W=.ok (.slice (some ⟨W.heap.size,0,none⟩) n n) (W.alloc (.cells (Jj n) 202)):=by
 obtain⟨i,hi,ad,aa,ac⟩:=info_parts zk5.info;have h:=run_makeSlice (P:=prog) (w:=W) 137 202 i _ zk5.under hi ad .i64 .i64 (n:Nat) (n:Nat) (by omega) (Int.le_refl _) (by rw [aa];omega) (by rw [ac];omega) (by omega);simp only [Int.toNat_natCast,aa] at h;rw [h,← zez n hn];rfl
def zhs(n:Nat)(t:List Nat)(ow:Own)(w:World)(e:Ending)(w':World):Prop:=
 ∃B sb ow',e=.returned (.tuple #[.pointer (some ⟨B,0,none⟩),.int .i64 0])/\zt t ow w ow' w'/\Below w.heap.size w w'/\vB B sb (QF n) t ow' w'
theorem zju(n:Nat)(hn:1<=n/\n<=16)(t:List Nat)(ow:Own)(w:World):Calls prog 33 #[.int .i64 (n:Nat)] w (zhs n t ow w):=by
 have ae:= @run_makeMap prog;have ac:=zeA n hn.2 w;have t1:decide ((n:Int)<1)=false:=by simp;omega
 have t2:decide (16<(n:Int))=false:=by simp;omega
 obtain⟨zs,aa⟩:∃zs,Jj n=zs:=⟨_,rfl⟩;rw [aa] at ac;replace aa:=hid aa
 go_enter func33,ntmps33
 go_wp2;go_ret2
 obtain⟨C,hC⟩:∃C:Array Value,C=#[.slice (some ⟨w.heap.size,0,none⟩) n n,.map (some (w.heap.size+1)),.int .u32 0,.int .u32 0,.int .u32 0,.int .u32 0,.int .u32 0,.int .u32 0,.int .u32 0,.int .u32 0,.int .u32 0,.int .u32 0,.int .u32 0,.int .u32 0,.int .u32 0,.int .u32 0,.int .u32 0,.int .u32 0,.slice none 0 0]:=⟨_,rfl⟩;have hb:Below w.heap.size w (((w.alloc (.cells zs 202)).alloc (.map #[] 0)).alloc (.cells C 141)):=pbx;have k1:Blk (((w.alloc (.cells zs 202)).alloc (.map #[] 0)).alloc (.cells C 141)) (w.heap.size+2) C 141:=Blk.new (by simp);have k2:Blk (((w.alloc (.cells zs 202)).alloc (.map #[] 0)).alloc (.cells C 141)) w.heap.size zs 202:=((Blk.new rfl).alloc _).alloc _;have k3:=(z6.made (w.alloc (.cells zs 202)) idV).kept (U4 ((w.alloc (.cells zs 202)).alloc (.map #[] 0)) (.cells C 141) _ (by simp));rw [← hC];have ad:C=(vR w.heap.size (w.heap.size+1) n (QF n).logd (.slice none 0 0)).toArray:=hC;refine⟨w.heap.size+2,w.heap.size,ow.ext w.heap.size (λ_=>True) t,rfl,⟨Mod.of_below _ hb,λk hk=>Own.ext_old hk⟩,hb,w.heap.size+1,.slice none 0 0,List.replicate n (0,0),?_,(by show Blk _ _ (Jj n) _;rw [aa.out];exact k2),by simpa [QF] using k3,z7 _ _ _,by simp [QF],by simp [QF],Own.ext_new (by omega) trivial,Own.ext_new (by omega) trivial,Own.ext_new (by omega) trivial,λg hg=>by simp [Value.ownBlock] at hg⟩;rw [List.length_replicate,← ad];exact k1
end
open Go Go.RowKit Go.Shelf Go.Extern.Stop Go.Stop Go.Extern
attribute [local go_sem] Oper.semAt_some zB zp
theorem zdc {B sb:Nat}{M:Jf}{t:List Nat}{ow:Own}{kd:Int}{i c:Nat}{d:List UInt8}(hi:i<M.acc.length)(hr:zx ((i,c),d)=true)(hc:c=M.acc[i]?.getD 0+1)(hk:M.acc[i]?.getD 0<=100000000)(w:World)(h:vB B sb M t ow w):
 Calls prog 72 #[.pointer (some ⟨B,0,none⟩),.agg #[.int .i64 kd,.int .i64 i,.int .i64 i,.int .u32 c,.string (bs d)]] w
  (J2 B sb {M with acc:=M.acc.set i c,wait:=put ((i:Int),c) (((i:Int),c),d) M.wait} t ow w (.bool true)):=by
 obtain⟨mb,lv,sl,hB,hS,hM,hR,ea,ed,o1,o2,o3,o4⟩:=h;have hn:sl.length=M.acc.length:=by rw [← ea];simp
 obtain⟨⟨p,q⟩,hp⟩:∃p,sl[i]?=some p:=⟨_,N3 (by omega)⟩;have ak:M.acc[i]?.getD 0=p:=by rw [← ea,List.getElem?_map,hp];rfl
 rw [ak] at hc hk;have y0:(0:Int)<=(i:Int):=by omega
 have y1:(i:Int)<(sl.length:Int):=by omega
 have a7:IntKind.u32.wrap ((p:Int)+1)=(c:Int):=by rw [IntKind.wrap_u32];omega
 have t1:((i:Int) !=(i:Int))=false:=by simp
 have t2:((c:Int) !=(c:Int))=false:=by simp
 have ad:=vG i c d;rw [hr] at ad;have al:Blk (w.alloc (.cells #[.int .i64 kd,.int .i64 i,.int .i64 i,.int .u32 c,.string (bs d)] 80)) w.heap.size #[.int .i64 kd,.int .i64 i,.int .i64 i,.int .u32 c,.string (bs d)] 80:=Blk.new rfl;have an:=hB.alloc (.cells #[.int .i64 kd,.int .i64 i,.int .i64 i,.int .u32 c,.string (bs d)] 80);have ao:=hS.alloc (.cells #[.int .i64 kd,.int .i64 i,.int .i64 i,.int .u32 c,.string (bs d)] 80);have e0:=al.cell;have aw:(w.alloc (.cells #[.int .i64 kd,.int .i64 i,.int .i64 i,.int .u32 c,.string (bs d)] 80)).cell? ⟨B,0,none⟩=some (.slice (some ⟨sb,0,none⟩) sl.length sl.length):=an.cellM rfl;replace ad:=hid ad;replace hp:=hid hp;replace ak:=hid ak;replace ea:=hid ea;replace ed:=hid ed;replace o4:=hid o4;replace hr:=hid hr;replace hc:=hid hc
 go_enter func72,ntmps72
 go_wp2
 go_quiet (fail)
 obtain⟨W1,ac⟩:∃W1,W1=(w.alloc (.cells #[.int .i64 kd,.int .i64 i,.int .i64 i,.int .u32 c,.string (bs d)] 80)).drewN nq:=⟨_,rfl⟩;have a4:Below w.heap.size w W1:=by rw [ac];exact qY (pbx) _
 have am:Blk W1 w.heap.size #[.int .i64 kd,.int .i64 i,.int .i64 i,.int .u32 c,.string (bs d)] 80:=by rw [ac];exact al.drewN _
 have aj:Blk W1 sb (sl.flatMap Zr).toArray 202:=by rw [ac];exact ao.drewN _
 rw [← ac];clear ac e0 aw an ao al;have ar:W1.cell? ⟨sb,i*2,none⟩=some (.int .u32 p):=aj.cellM ((qa hp.out (j:=0) (by omega)).trans rfl);go_wp2_with fail
 refine zd [O 0,O 1,E 2,O 3,O 4,O 5,O 6,O 7,O 8,O 9,O 10,O 11,O 12,O 13,O 14,O 15,O 16,O 17,O 18,O 19,O 20,O 21,O 22,O 23,O 24] none (λw'=>Blk w' w.heap.size #[.int .i64 kd,.int .i64 i,.int .i64 i,.int .u32 c,.string (bs d)] 80/\w'.cell? ⟨sb,i*2,none⟩=some (.int .u32 p)/\True) ⟨am.drew,ar,trivial⟩ ?_
 refine Wo ?_
 refine zc rfl (λK hK=>?_);go_wp2_with fail
 refine(ad.out _).mono ?_;rintro e w2⟨rfl,ag⟩;have af:=zh (zq a4) ag;have ah:=am.drew.call ag;have ae:=aj.drew.call ag;have aq:w2.cell? ⟨sb,i*2,none⟩=some (.int .u32 p):=ae.cellM ((qa hp.out (j:=0) (by omega)).trans rfl);go_wp2;refine hK.out _ _ (λ_=>⟨ah,aq,trivial⟩) ?_;clear hK K
 refine Wo ?_
 refine ze ?_;have ax:=ae.frozen (i*2);go_wp2_with fail
 obtain⟨W3,aa⟩:∃W3,W3=w2.setCell ⟨sb,i*2,none⟩ (.int .u32 c):=⟨_,rfl⟩
 have a3:B≠sb:=by
  rintro rfl;unfold Blk at hB hS;rw [hB] at hS;simp at hS
 have ap:=hS.ne_map hM;have au:Blk W3 B (vR sb mb sl.length M.logd lv).toArray 141:=by rw [aa];exact(hB.kept (af.block B hB.lt)).other a3 _
 have a6:Blk W3 sb ((sl.set i (c,q)).flatMap Zr).toArray 202:=by rw [aa];exact ae.setM (Vj (s:=(p,q)) (s':=(c,q)) (j:=0) (by omega) rfl hp.out)
 have a2:z6 W3.drew mb idV (M.wait.map λq=>(q.1,y7 q.2)):=by rw [aa];exact(hM.kept (af.block mb hM.lt)).kept (N4 _ _ _ _ (Ne.symm ap))
 have a1:Blk W3 w.heap.size #[.int .i64 kd,.int .i64 i,.int .i64 i,.int .u32 c,.string (bs d)] 80:=by rw [aa];exact ah.other (by have:=hS.lt;show w.heap.size≠sb;omega) _
 have a5:Row W3 78 3 lv M.log.length (M.log.flatMap zg):=by
  rw [aa];exact(hR.kept (λg hg=>af.block g (hR.lt hg))).kept (λg hg=>N4 _ _ _ _ (hR.ne_blk hS (by decide) hg))
 have ai:Mod (λk=>Sub t (ow k)) w W3:=by rw [aa];exact(Mod.of_below _ af).thenSet (p:=⟨sb,i*2,none⟩) (by show Sub t (ow sb);rw [o2];exact Sub.rfl' t) _
 rw [← aa];clear aa ah ae aq ax ar am aj;have a8:W3.cell? ⟨B,1,none⟩=some (.map (some mb)):=au.cellM rfl;have e3:=a1.cell;obtain⟨o,ay,a0⟩:=a2.update VK Tryz.underlying138 ((i:Int),c) (.agg #[.int .i64 i,.int .u32 c,.string (bs d)]);unfold idV at ay
 go_region
 go_wp2;go_ret
 have az:=hB.ne_map hM;refine⟨rfl,ow,⟨(ai.thenDrew).thenPut (by rw [o3];exact Sub.rfl' t) o,λ_ _=>rfl⟩,mb,lv,sl.set i (c,q),?_,a6.drew.putObj ap o,?_,?_,?_,?_,o1,o2,o3,o4.out⟩
 ·rw [List.length_set];exact au.drew.putObj az o
 ·have h5:z6 (W3.drew.putObj mb o) mb idV (put ((i:Int),c) (y7 (((i:Int),c),d)) (M.wait.map λp=>(p.1,y7 p.2))):=a0
  rw [JD y7] at h5;exact h5
 ·exact a5.kept (λg hg=>U1 (hR.ne_map hM hg))
 ·rw [List.map_set,ea.out]
 rw [List.map_set,ed.out]
 apply List.ext_getElem?
 intro j
 by_cases hj:i=j
 ·subst hj
  rw [List.getElem?_set_self (by rw [← ed.out];simp;omega),← ed.out,List.getElem?_map,hp.out];rfl
 rw [List.getElem?_set_ne hj]
