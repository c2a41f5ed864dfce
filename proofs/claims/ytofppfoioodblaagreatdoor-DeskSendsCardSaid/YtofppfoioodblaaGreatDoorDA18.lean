/- PARTS OF THE PROOF. -/
import Derived.Test.YtofppfoioodblaaGreatDoorDA17
set_option maxRecDepth 8000
set_option maxHeartbeats 4000000
open Go.Proofs.Tryz
namespace Go.Proofs.YtofppfoioodblaaGreatDoor
open Go Go.RowKit Go.Shelf Go.Extern.Stop Go.Stop Go.Extern
attribute [local go_sem] Oper.semAt_some zB zo
structure XV(L:List zx)(mb lb:Nat)(most:Nat)(W0:World)(k:Nat)(v:Value)(X:Nat->Prop)(W:World):Prop where
 fr:Fr (λk=>k=lb) W0 X W
 kl:Blk W lb #[v] 42
 row:Row W 78 3 v (L.take k).length ((L.take k).flatMap zh)
 new:∀g,v.ownBlock=some g->W0.heap.size<=g/\¬X g
theorem XV.stab {L:List zx}{mb lb most:Nat}{W0:World}{k:Nat}{v:Value}{X X':Nat->Prop}{W W':World}(h:XV L mb lb most W0 k v X W)(hl:lb<W0.heap.size)(hm:Mod X W W')(hx:∀k,X' k->X k∨(W.heap.size<=k/\k<W'.heap.size)):XV L mb lb most W0 k v X' W' where
 fr:=h.fr.step hm hx
 kl:=h.kl.kept (h.fr.block hm hl)
 row:=h.row.mod hm (λg hg=>(h.new g hg).2)
 new:=λg hg=>⟨(h.new g hg).1,λhX=>by
  rcases hx g hX with h1|h1
  ·exact(h.new g hg).2 h1
  have:=h.row.lt hg;omega⟩
def XW(l:List zx)(w:World)(e:Ending)(w':World):Prop:=
 ∃v,e=.returned (.tuple #[v,.int .i64 0])/\Below w.heap.size w w'/\Row w' 78 3 v l.length (l.flatMap zh)/\∀g,v.ownBlock=some g->w.heap.size<=g
theorem zen(B:Nat)(p:xn)(t:List Nat)(ow:Own)(most:Nat)(h1:1<=most)(h2:most<=64)(w:World)(h:jY B p t ow w):
 Calls prog 187 #[.pointer (some ⟨B,0,none⟩),.int .i64 most] w (XW (ZX p most) w):=by
 have a0:p.waits.length<=1000000:=by have:=h.1.2.2;omega
 have aq:=λcb=>zem cb B p t ow a0
 have az:ZX p most=(Zk (p.waits.map (·.2))).take most:=rfl;have an:(Zk (p.waits.map (·.2))).length=p.waits.length:=by rw [(vN _).length_eq];simp
 rw [az];have h0:=h;obtain⟨bh,wb,db,hB, -⟩:=h;have ag:=λW hW=>YF B wb db W hW
 unfold xB at hB ag
 generalize Zk (p.waits.map (·.2))=L at*
 have ac:∀v W',Below w.heap.size w W'->Row W' 78 3 v (L.take most).length ((L.take most).flatMap zh)->(∀g,v.ownBlock=some g->w.heap.size<=g)->XW (L.take most) w (.returned (.tuple #[v,.int .i64 0])) W':=λv W' a b c=>⟨v,rfl,a,b,c⟩
 have t1:decide ((most:Int)<1)=false:=by simp;omega
 have t2:decide ((64:Int)<(most:Int))=false:=by simp;omega
 replace ac:=hid ac;replace aq:=hid aq;replace ag:=hid ag;replace h0:=hid h0;replace az:=hid az;replace an:=hid an;replace hB:=hid hB;refine zl func187 rfl ?_;simp only [ntmps187,R8,Nat.reduceAdd,Nat.reduceSub];go_wp2;go_step3;go_wp2_with fail
 refine(ag.out _ (hB.out.alloc _)).mono ?_;rintro e w1⟨rfl,a7⟩;obtain rfl:=a7.symm;go_wp2;go_step3;go_wp2_with fail
 refine(zgx B _).mono ?_;rintro e w2⟨rfl,rfl⟩;go_wp2_with fail
 obtain⟨W0,ak⟩:∃W0,W0=(((w.alloc (.cells #[.int .i64 most] 3)).alloc (.cells #[.slice none 0 0] 42)).alloc (.cells #[.pointer (some ⟨B,0,none⟩)] 96)):=⟨_,rfl⟩;have bj:W0.heap.size=w.heap.size+3:=by rw [ak];simp
 have ar:Below w.heap.size w W0:=by rw [ak];exact pbx
 have ba:Blk W0 w.heap.size #[.int .i64 most] 3:=by rw [ak];exact bkx
 have a5:Blk W0 (w.heap.size+1) #[.slice none 0 0] 42:=by rw [ak];exact bkx
 have a9:Blk W0 (w.heap.size+1+1) #[.pointer (some ⟨B,0,none⟩)] 96:=by rw [ak];exact bkx
 rw [← ak];clear ak
 refine yV (gf:=295) (lb:=#[.pointer (some ⟨w.heap.size+1+1,0,none⟩)]) rfl (enters_of func295 (by kernel_rfl) rfl)
  (aq.out (w.heap.size+1+1)) (λ_=>rfl)
  (λk X W=>k<=most/\k<=L.length/\∃v,XV L w.heap.size (w.heap.size+1) most W0 k v X W)
  (λc X W=>c=.exit 0/\∃v,XV L w.heap.size (w.heap.size+1) most W0 most v X W)
  (λk X X' W W' h hm hx=>by obtain⟨a,b,v,h3⟩:=h;exact⟨a,b,v,h3.stab (by omega) hm hx⟩)
  (λc _ X X' W W' h hm hx=>by obtain⟨hc,v,h3⟩:=h;exact⟨hc,v,h3.stab (by omega) hm hx⟩)
  (λk X W h=>by obtain⟨a,b,v,h3⟩:=h;exact⟨a9.mod h3.fr.2 (by omega),(jY.loc B p t).below h0.out (ar.trans (h3.fr.below (by omega) (λk hk=>by omega)))⟩)
  (λk X W h=>by obtain⟨a,b,v,h3⟩:=h;exact⟨by have:=h3.fr.2.size;omega,λk hk=>(h3.fr.1 k hk).2⟩)
  ⟨Nat.zero_le _,Nat.zero_le _,.slice none 0 0,Fr.refl _ _,a5,jc _ _ _,by simp [Value.ownBlock]⟩
  7 78 (λx=> #[.int .i64 x.1.1,.int .u32 x.1.2,.string (bs x.2)]) ?assign ?body ?done ?stop
 case assign=>
  intro l' x W K hK;rw [jf] at hK⊢;unfold vO at hK⊢
  gi_wp2
  exact hK
 case body=>
  rintro l' k x cb X X1 W1 W bq⟨a6,bc,v,hI⟩ al bl bk bg kx bf _;obtain⟨af,kl,aa,ab⟩:=hI;obtain⟨⟨xi,xc⟩,xd⟩:=x;have km:=ba.mod af.2 (by omega);have em:=km.cell;have lm:=km.lt;have el:=kl.cell;have ll:=kl.lt;have be:=(N6.1 al).1;have au:(L.take k).length=k:=by rw [N7];omega
  rw [jf];unfold vO;simp only at kx;rw [au] at aa
  by_cases hkq:k=most
  ·subst hkq
   have t3:((k:Int)==(k:Int))=true:=by simp
   obtain⟨va,vc,rfl⟩:=aa.src.shape;replace aa:=hid aa;replace ab:=hid ab;replace al:=hid al
   gi_wp2
   exact⟨⟨rfl,_,af,kl,by rw [au];exact aa.out,ab.out⟩,jm.refl _ _⟩
  have t3:((k:Int)==(most:Int))=false:=by simp;omega
  obtain⟨va,vc,rfl⟩:=aa.src.shape;have ai:(L.take (k+1))=L.take k++ [((xi,xc),xd)]:=by rw [List.take_add_one,al];rfl
  have ex:=kx.cell;have bi:=af.2.size;have aw:∀g,(Value.slice va k vc).ownBlock=some g->g≠w.heap.size+1:=λg hg=>by have:=(ab g hg).1;omega
  have bn:=kx.lt;obtain⟨v',W3,ah,ad,a1,aj⟩:=zM zdI (aa.below ((N2 _ _).alloc (N0 _) (.cells #[.int .i64 xi,.int .u32 xc,.string (bs xd)] 78))) (jD (n:=1) (size:=3) (cap:=1) (Blk.new (w:=W) (cs:=#[.int .i64 xi,.int .u32 xc,.string (bs xd)]) (t:=78) rfl) rfl (N0 1)) (jA [((xi,xc),xd)]) (by omega) 42;have am:=(kl.alloc (.cells #[.int .i64 xi,.int .u32 xc,.string (bs xd)] 78)).kept (a1.block _ (by simp;omega) (λe=>aw _ e.symm rfl));have bo:=am.frozen;have bm:=am.cell;have bp:=am.lt;obtain⟨sa,sm,sc,rfl⟩:=ad.shape;replace aa:=hid aa;replace ad:=hid ad;replace aj:=hid aj;replace ab:=hid ab;replace aw:=hid aw;replace al:=hid al;replace ai:=hid ai;replace ah:=hid ah
  gi_wp2_with (gi_at_builtin
               refine jO rfl _ _ _ rfl rfl rfl ah.out ?_)
  have a3:Mod (λk'=>k'=w.heap.size+1∨(Value.slice va k vc).ownBlock=some k') W (W3.setCell ⟨w.heap.size+1,0,none⟩ (.slice sa sm sc)):=
   (((Mod.refl (λk'=>k'=w.heap.size+1∨(Value.slice va k vc).ownBlock=some k') W).thenAlloc (.cells #[.int .i64 xi,.int .u32 xc,.string (bs xd)] 78)).trans (Mod.grown (X:=λk'=>k'=w.heap.size+1∨(Value.slice va k vc).ownBlock=some k') a1 (λk h=>.inr h)) (λ_ _ e=>e) (λ_ _ e=>e)).thenSet (p:=⟨w.heap.size+1,0,none⟩) (.inl rfl) _
  have a2:∀g,(Value.slice sa sm sc).ownBlock=some g->W0.heap.size<=g/\¬X g:=λg hg=>by
   have:=aj.out;rw [hg] at this
   rcases this with h|h
   ·exact ab.out g h.symm
   simp at h;subst h;exact⟨by omega,λhX=>by have:=(af.1 _ hX).2;omega⟩
  refine⟨⟨by omega,by omega,.slice sa sm sc,af.mod a3 (λk hk h=>?_),am.set (o:=0) _,?_,a2⟩,jm.of_mod a3 (λk hk hX h=>?_)⟩
  ·rcases h with h|h
   ·exact h
   have:=(ab.out k h).1;omega
  ·rw [ai.out,N1,au,U2,U5]
   refine Row.kept (w:=W3) ad.out (λg hg=>?_);have:=(a2 g hg).1;exact N4 _ _ _ _ (show g≠w.heap.size+1 by omega)
  have:=af.1 k hX
  rcases h with h|h
  ·omega
  exact(ab.out k h).2 hX
 case done=>
  rintro D k X W hD bd ax⟨a6,bc,v,hI⟩ ae;have a4:k=p.waits.length:=ax;have bb:L.take most=L.take k:=by rw [List.take_of_length_le (by have:=an.out;omega),List.take_of_length_le (by have:=an.out;omega)]
  obtain⟨af,kl,aa,ab⟩:=hI;rw [← bb] at aa;have ap:Below w.heap.size w W:=ar.trans (af.below (by omega) (λk hk=>by omega));have el:=kl.cell;have ay:∀g,v.ownBlock=some g->g≠D:=λg hg e=>by subst e;obtain⟨a8,hc⟩:=aa.type hg;rw [ae] at hc;cases hc
  have ao:∀g,v.ownBlock=some g->w.heap.size<=g:=λg hg=>by have:=(ab g hg).1;omega
  replace aa:=hid aa;clear ab;go_wp2;rw [Exit.noGoto_ret];exact jl (D:=D) (v:=.tuple #[v,.int .i64 0]) ae (by simp [results,Tryz.results187,go_sem]) (ac.out _ _ (zS ap (by omega) _) (aa.out.kept (λg hg=>U1 (ay g hg))) ao)
 case stop=>
  rintro D c X W hD bd⟨rfl,v,hI⟩ ae;obtain⟨af,kl,aa,ab⟩:=hI;have ap:Below w.heap.size w W:=ar.trans (af.below (by omega) (λk hk=>by omega));have el:=kl.cell;have ay:∀g,v.ownBlock=some g->g≠D:=λg hg e=>by subst e;obtain⟨a8,hc⟩:=aa.type hg;rw [ae] at hc;cases hc
  have ao:∀g,v.ownBlock=some g->w.heap.size<=g:=λg hg=>by have:=(ab g hg).1;omega
  replace aa:=hid aa;clear ab;go_wp2;rw [Exit.noGoto_ret];exact jl (D:=D) (v:=.tuple #[v,.int .i64 0]) ae (by simp [results,Tryz.results187,go_sem]) (ac.out _ _ (zS ap (by omega) _) (aa.out.kept (λg hg=>U1 (ay g hg))) ao)
def yY(v:jE):Value:=.agg #[.int .u64 (v.1:Nat),.int .u64 (v.2.1:Nat),.string (bs v.2.2)]
theorem ziz(x:List UInt8):(bs x).toList.isEmpty=x.isEmpty:=by rw [vq]
theorem XX(b:Nat)(x:List UInt8)(w:World)(h0:w.cell? ⟨b,0,none⟩=some (.string (bs x))):
 Calls prog 251 #[.slice (some ⟨b,0,none⟩) 1 1] w λe w'=>e=.returned (.bool (decide (x.length<=4000)))/\w'=w:=by
 have aa:=zI x
 go_enter func251,ntmps251
 go_wp2
 go_loop [7] (λp7=>∃k:Nat,k<=1/\p7=.int .i64 k/\(k=1->x.length<=4000)) (λp7=>1 - (intOf p7).toNat)
 case atStart=>exact⟨0,by omega,rfl,by simp⟩
 case round=>
  obtain⟨k,hk,rfl,hx⟩:=hrel
  rcases(by omega:k=0∨k=1)with rfl|rfl
  ·by_cases h:4000<x.length
   ·have t0:decide ((4000:Int)<((bs x).size:Int))=true:=by rw [aa];simp;omega
    have hd:decide (x.length<=4000)=false:=by simp;omega
    replace aa:=hid aa;go_wp2;go_ret
    exact⟨rfl,rfl⟩
   have t0:decide ((4000:Int)<((bs x).size:Int))=false:=by rw [aa];simp;omega
   replace aa:=hid aa;go_wp2
   go_round
   case rel=>exact⟨1,by omega,by go_num,by omega⟩
   case measure=>simp [intOf]
  have hd:decide (x.length<=4000)=true:=by simp;omega
  go_wp2;go_ret
  exact⟨rfl,rfl⟩
theorem Vi(v:jE)(w:World):Calls prog 303 #[yY v] w λe w'=>e=.returned (.bool (j9 v))/\Below w.heap.size w w':=by
 obtain⟨p,b,x⟩:=v;have aa:=λbb W h=>XX bb x W h
 have tq:=ziz x;unfold yY j9;simp only
 generalize decide (x.length<=4000)=fx at*
 replace aa:=hid aa
 by_cases hb0:b=0
 ·subst hb0
  have t0:(((0:Nat):Int)==0)=true:=rfl;have t1:decide (((0:Nat):Int)<=(p:Int))=true:=by simp
  have e1:decide (0<=p)=true:=by simp
  rw [e1,show decide ((0:Nat)=0)=true from rfl]
  cases hx:x.isEmpty
  ·rw [hx] at tq
   replace hx:=hid hx
   go_enter func303,ntmps303
   go_wp2;go_ret
   exact⟨rfl,pbx⟩
  rw [hx] at tq
  replace hx:=hid hx
  go_enter func303,ntmps303
  go_wp2_with fail
  refine(aa.out _ _ (by simp)).mono ?_;rintro e w1⟨rfl,rfl⟩;go_wp2;go_ret
  exact⟨by simp,pbx⟩
 have t0:((b:Int)==0)=false:=by simpa using hb0
 rw [show decide (b=0)=false by simpa using hb0]
 by_cases hbp:b<=p
 ·have t1:decide ((b:Int)<=(p:Int))=true:=by simpa using hbp
  rw [show decide (b<=p)=true by simpa using hbp];replace hbp:=hid hbp;replace hb0:=hid hb0
  go_enter func303,ntmps303
  go_wp2_with fail
  refine(aa.out _ _ (by simp)).mono ?_;rintro e w1⟨rfl,rfl⟩;go_wp2;go_ret
  exact⟨by simp,pbx⟩
 have t1:decide ((b:Int)<=(p:Int))=false:=by simpa using hbp
 rw [show decide (b<=p)=false by simpa using hbp];replace hbp:=hid hbp;replace hb0:=hid hb0
 go_enter func303,ntmps303
 go_wp2;go_ret
 exact⟨by simp,pbx⟩
def zbj(r:jE×Int):Value:=.tuple #[yY r.1,.int .i64 r.2]
theorem zcM(v:jE)(b:Nat)(w:World):Calls prog 302 #[yY v,.int .u64 b] w λe w'=>e=.returned (zbj (yl v b))/\Below w.heap.size w w':=by
 have hr:=λW=>Vi v W
 have hp:yl v b=if j9 v=false∨b<1 then((0,0,[]),2)else if b<=v.1 then((0,0,[]),80)else((b,v.2),0):=rfl
 generalize j9 v=ok at*
 obtain⟨p,q,x⟩:=v;unfold zbj yY at*;simp only at hr hp⊢;replace hr:=hid hr
 by_cases hok:ok=false∨b<1
 ·rw [if_pos hok] at hp
  rw [hp];replace hp:=hid hp
  cases ok
  ·clear hok
   go_enter func302,ntmps302
   go_wp2_with fail
   refine(hr.out _).mono ?_;rintro e w1⟨rfl,ab⟩;have k1:Blk w1 (w.heap.size+1) #[.int .u64 0,.int .u64 0,.string ⟨#[]⟩] 317:=Blk.call (bkx) ab;have k0:Blk w1 w.heap.size #[.int .u64 p,.int .u64 q,.string (bs x)] 317:=Blk.call (bkx) ab;have c1:=k1.cell;have f1:=k1.frozen;have l1:=k1.lt;have c0:=k0.cell;have f0:=k0.frozen;have l0:=k0.lt;have ac:Below w.heap.size w w1:=pbx;have kr:=k1;have aa:=ac;have rr:=(((kr.set (o:=0) (.int .u64 0)).set (o:=1) (.int .u64 0)).set (o:=2) (.string ⟨#[]⟩)).cell;go_wp2;exact bodyPost_ret (v:=.tuple #[.agg #[.int .u64 0,.int .u64 0,.string ⟨#[]⟩],.int .i64 2]) (by simp [results,Tryz.results302,go_sem,rr]) rfl ⟨by first|rfl|simp,zu (zu (zu aa (by simp) _) (by simp) _) (by simp) _⟩
  have t1:decide ((b:Int)<1)=true:=by rcases hok with h|h;cases h;simp;omega
  replace hok:=hid hok
  go_enter func302,ntmps302
  go_wp2_with fail
  refine(hr.out _).mono ?_;rintro e w1⟨rfl,ab⟩;have k1:Blk w1 (w.heap.size+1) #[.int .u64 0,.int .u64 0,.string ⟨#[]⟩] 317:=Blk.call (bkx) ab;have k0:Blk w1 w.heap.size #[.int .u64 p,.int .u64 q,.string (bs x)] 317:=Blk.call (bkx) ab;have c1:=k1.cell;have f1:=k1.frozen;have l1:=k1.lt;have c0:=k0.cell;have f0:=k0.frozen;have l0:=k0.lt;have ac:Below w.heap.size w w1:=pbx;have kr:=k1;have aa:=ac;have rr:=(((kr.set (o:=0) (.int .u64 0)).set (o:=1) (.int .u64 0)).set (o:=2) (.string ⟨#[]⟩)).cell;go_wp2;exact bodyPost_ret (v:=.tuple #[.agg #[.int .u64 0,.int .u64 0,.string ⟨#[]⟩],.int .i64 2]) (by simp [results,Tryz.results302,go_sem,rr]) rfl ⟨by first|rfl|simp,zu (zu (zu aa (by simp) _) (by simp) _) (by simp) _⟩
 rw [if_neg hok] at hp
 obtain rfl:ok=true:=by cases ok<;>simp_all
 have t1:decide ((b:Int)<1)=false:=by simp;omega
 replace hok:=hid hok
 by_cases hbp:b<=p
 ·rw [if_pos hbp] at hp
  rw [hp];have t2:decide ((b:Int)<=(p:Int))=true:=by simpa using hbp
  replace hp:=hid hp;replace hbp:=hid hbp
  go_enter func302,ntmps302
  go_wp2_with fail
  refine(hr.out _).mono ?_;rintro e w1⟨rfl,ab⟩;have k1:Blk w1 (w.heap.size+1) #[.int .u64 0,.int .u64 0,.string ⟨#[]⟩] 317:=Blk.call (bkx) ab;have k0:Blk w1 w.heap.size #[.int .u64 p,.int .u64 q,.string (bs x)] 317:=Blk.call (bkx) ab;have c1:=k1.cell;have f1:=k1.frozen;have l1:=k1.lt;have c0:=k0.cell;have f0:=k0.frozen;have l0:=k0.lt;have ac:Below w.heap.size w w1:=pbx;have kr:=k1;have aa:=ac;have rr:=(((kr.set (o:=0) (.int .u64 0)).set (o:=1) (.int .u64 0)).set (o:=2) (.string ⟨#[]⟩)).cell;go_wp2;exact bodyPost_ret (v:=.tuple #[.agg #[.int .u64 0,.int .u64 0,.string ⟨#[]⟩],.int .i64 80]) (by simp [results,Tryz.results302,go_sem,rr]) rfl ⟨by first|rfl|simp,zu (zu (zu aa (by simp) _) (by simp) _) (by simp) _⟩
 rw [if_neg hbp] at hp
 rw [hp];have t2:decide ((b:Int)<=(p:Int))=false:=by simpa using hbp
 replace hp:=hid hp;replace hbp:=hid hbp
 go_enter func302,ntmps302
 go_wp2_with fail
 refine(hr.out _).mono ?_;rintro e w1⟨rfl,ab⟩;have k1:Blk w1 (w.heap.size+1) #[.int .u64 0,.int .u64 0,.string ⟨#[]⟩] 317:=Blk.call (bkx) ab;have k0:Blk w1 w.heap.size #[.int .u64 p,.int .u64 q,.string (bs x)] 317:=Blk.call (bkx) ab;have c1:=k1.cell;have f1:=k1.frozen;have l1:=k1.lt;have c0:=k0.cell;have f0:=k0.frozen;have l0:=k0.lt;have ac:Below w.heap.size w w1:=pbx;have kr:=k1.other (p:=⟨w.heap.size,0,none⟩) (by simp) (.int .u64 b);have kq:=(k0.set (o:=0) (.int .u64 b)).cell;have aa:=zu ac (p:=⟨w.heap.size,0,none⟩) (N0 _) (.int .u64 b);have rr:=(((kr.set (o:=0) (.int .u64 b)).set (o:=1) (.int .u64 q)).set (o:=2) (.string (bs<|x))).cell;go_wp2;exact bodyPost_ret (v:=.tuple #[.agg #[.int .u64 b,.int .u64 q,.string (bs<|x)],.int .i64 0]) (by simp [results,Tryz.results302,go_sem,rr]) rfl ⟨by first|rfl|simp,zu (zu (zu aa (by simp) _) (by simp) _) (by simp) _⟩
theorem ziA(v:jE)(b:Nat)(y:List UInt8)(w:World):Calls prog 300 #[yY v,.int .u64 b,.string (bs y)] w λe w'=>e=.returned (zbj (Vb v b y))/\Below w.heap.size w w':=by
 have hr:=λW=>Vi v W
 have aa:=λbb W h=>XX bb y W h
 have hp:Vb v b y=if j9 v=false∨b<1∨4000<y.length then((0,0,[]),2)else if b<v.1 then((0,0,[]),80)else((b,b,y),0):=rfl
 generalize j9 v=ok at*
 obtain⟨p,q,x⟩:=v;unfold zbj yY at*;simp only at hr hp⊢;have ae:decide (y.length<=4000)= !decide (4000<y.length):=by by_cases h:y.length<=4000<;>simp [h] <;>omega
 rw [ae] at aa;replace hr:=hid hr
 cases ok
 ·rw [if_pos (.inl rfl)] at hp
  rw [hp];replace hp:=hid hp;replace aa:=hid aa
  go_enter func300,ntmps300
  go_wp2_with fail
  refine(hr.out _).mono ?_;rintro e w1⟨rfl,ab⟩;have k1:Blk w1 (w.heap.size+1) #[.int .u64 0,.int .u64 0,.string ⟨#[]⟩] 317:=Blk.call (bkx) ab;have k0:Blk w1 w.heap.size #[.int .u64 p,.int .u64 q,.string (bs x)] 317:=Blk.call (bkx) ab;have c1:=k1.cell;have f1:=k1.frozen;have l1:=k1.lt;have c0:=k0.cell;have f0:=k0.frozen;have l0:=k0.lt;have ac:Below w.heap.size w w1:=pbx;have kr:=k1;have ad:=ac;have rr:=(((kr.set (o:=0) (.int .u64 0)).set (o:=1) (.int .u64 0)).set (o:=2) (.string ⟨#[]⟩)).cell;go_wp2;exact bodyPost_ret (v:=.tuple #[.agg #[.int .u64 0,.int .u64 0,.string ⟨#[]⟩],.int .i64 2]) (by simp [results,Tryz.results300,go_sem,rr]) rfl ⟨by first|rfl|simp,zu (zu (zu ad (by simp) _) (by simp) _) (by simp) _⟩
 by_cases ab:b<1
 ·rw [if_pos (.inr (.inl ab))] at hp
  rw [hp];have t1:decide ((b:Int)<1)=true:=by simp;omega
  replace hp:=hid hp;replace aa:=hid aa;replace ab:=hid ab
  go_enter func300,ntmps300
  go_wp2_with fail
  refine(hr.out _).mono ?_;rintro e w1⟨rfl,ab⟩;have k1:Blk w1 (w.heap.size+1) #[.int .u64 0,.int .u64 0,.string ⟨#[]⟩] 317:=Blk.call (bkx) ab;have k0:Blk w1 w.heap.size #[.int .u64 p,.int .u64 q,.string (bs x)] 317:=Blk.call (bkx) ab;have c1:=k1.cell;have f1:=k1.frozen;have l1:=k1.lt;have c0:=k0.cell;have f0:=k0.frozen;have l0:=k0.lt;have ac:Below w.heap.size w w1:=pbx;have kr:=k1;have ad:=ac;have rr:=(((kr.set (o:=0) (.int .u64 0)).set (o:=1) (.int .u64 0)).set (o:=2) (.string ⟨#[]⟩)).cell;go_wp2;exact bodyPost_ret (v:=.tuple #[.agg #[.int .u64 0,.int .u64 0,.string ⟨#[]⟩],.int .i64 2]) (by simp [results,Tryz.results300,go_sem,rr]) rfl ⟨by first|rfl|simp,zu (zu (zu ad (by simp) _) (by simp) _) (by simp) _⟩
 have t1:decide ((b:Int)<1)=false:=by simp;omega
 by_cases hy:4000<y.length
 ·rw [if_pos (.inr (.inr hy))] at hp
  rw [hp];rw [show decide (4000<y.length)=true by simpa using hy] at aa;replace hp:=hid hp;replace aa:=hid aa;replace ab:=hid ab;replace hy:=hid hy;clear ae
  go_enter func300,ntmps300
  go_wp2_with fail
  refine(hr.out _).mono ?_;rintro e w1⟨rfl,ab⟩;have k1:Blk w1 (w.heap.size+1) #[.int .u64 0,.int .u64 0,.string ⟨#[]⟩] 317:=Blk.call (bkx) ab;have k0:Blk w1 w.heap.size #[.int .u64 p,.int .u64 q,.string (bs x)] 317:=Blk.call (bkx) ab;have c1:=k1.cell;have f1:=k1.frozen;have l1:=k1.lt;have c0:=k0.cell;have f0:=k0.frozen;have l0:=k0.lt;have ac:Below w.heap.size w w1:=pbx;go_wp2_with fail
  refine(aa.out _ _ (by simp)).mono ?_;rintro e w2⟨rfl,rfl⟩;have kr:=k1.alloc (.cells #[.string (bs y)] 9);have cr:=kr.cell;have fr:=kr.frozen;have lr:=kr.lt;have rr:=((((k1.set (o:=0) (.int .u64 0)).set (o:=1) (.int .u64 0)).set (o:=2) (.string ⟨#[]⟩)).alloc (.cells #[.string (bs y)] 9)).cell;go_wp2;exact bodyPost_ret (v:=.tuple #[.agg #[.int .u64 0,.int .u64 0,.string ⟨#[]⟩],.int .i64 2]) (by simp [results,Tryz.results300,go_sem,rr]) rfl ⟨by first|rfl|simp,zi (zu (zu (zu ac (by simp) _) (by simp) _) (by simp) _) _⟩
 rw [if_neg (by simp;omega)] at hp
 rw [show decide (4000<y.length)=false by simpa using hy] at aa;replace aa:=hid aa;replace ab:=hid ab;replace hy:=hid hy;clear ae
 by_cases hbp:b<p
 ·rw [if_pos hbp] at hp
  rw [hp];have t2:decide ((b:Int)<(p:Int))=true:=by simpa using hbp
  replace hp:=hid hp;replace hbp:=hid hbp
  go_enter func300,ntmps300
  go_wp2_with fail
  refine(hr.out _).mono ?_;rintro e w1⟨rfl,ab⟩;have k1:Blk w1 (w.heap.size+1) #[.int .u64 0,.int .u64 0,.string ⟨#[]⟩] 317:=Blk.call (bkx) ab;have k0:Blk w1 w.heap.size #[.int .u64 p,.int .u64 q,.string (bs x)] 317:=Blk.call (bkx) ab;have c1:=k1.cell;have f1:=k1.frozen;have l1:=k1.lt;have c0:=k0.cell;have f0:=k0.frozen;have l0:=k0.lt;have ac:Below w.heap.size w w1:=pbx;go_wp2_with fail
  refine(aa.out _ _ (by simp)).mono ?_;rintro e w2⟨rfl,rfl⟩;have kr:=k1.alloc (.cells #[.string (bs y)] 9);have cr:=kr.cell;have fr:=kr.frozen;have lr:=kr.lt;have rr:=((((k1.set (o:=0) (.int .u64 0)).set (o:=1) (.int .u64 0)).set (o:=2) (.string ⟨#[]⟩)).alloc (.cells #[.string (bs y)] 9)).cell;go_wp2;exact bodyPost_ret (v:=.tuple #[.agg #[.int .u64 0,.int .u64 0,.string ⟨#[]⟩],.int .i64 80]) (by simp [results,Tryz.results300,go_sem,rr]) rfl ⟨by first|rfl|simp,zi (zu (zu (zu ac (by simp) _) (by simp) _) (by simp) _) _⟩
 rw [if_neg hbp] at hp
 rw [hp];have t2:decide ((b:Int)<(p:Int))=false:=by simpa using hbp
 replace hp:=hid hp;replace hbp:=hid hbp
 go_enter func300,ntmps300
 go_wp2_with fail
 refine(hr.out _).mono ?_;rintro e w1⟨rfl,ab⟩;have k1:Blk w1 (w.heap.size+1) #[.int .u64 0,.int .u64 0,.string ⟨#[]⟩] 317:=Blk.call (bkx) ab;have k0:Blk w1 w.heap.size #[.int .u64 p,.int .u64 q,.string (bs x)] 317:=Blk.call (bkx) ab;have c1:=k1.cell;have f1:=k1.frozen;have l1:=k1.lt;have c0:=k0.cell;have f0:=k0.frozen;have l0:=k0.lt;have ac:Below w.heap.size w w1:=pbx;go_wp2_with fail
 refine(aa.out _ _ (by simp)).mono ?_;rintro e w2⟨rfl,rfl⟩;have kr:=k1.alloc (.cells #[.string (bs y)] 9);have cr:=kr.cell;have fr:=kr.frozen;have lr:=kr.lt;have rr:=((((k1.set (o:=0) (.int .u64 b)).set (o:=1) (.int .u64 b)).set (o:=2) (.string (bs<|y))).alloc (.cells #[.string (bs y)] 9)).cell;go_wp2;exact bodyPost_ret (v:=.tuple #[.agg #[.int .u64 b,.int .u64 b,.string (bs<|y)],.int .i64 0]) (by simp [results,Tryz.results300,go_sem,rr]) rfl ⟨by first|rfl|simp,zi (zu (zu (zu ac (by simp) _) (by simp) _) (by simp) _) _⟩
def j3(x:List UInt8):Value:=.agg #[.string (bs x)]
def Zr(vb kb:Nat)(p:xM):Array Value:=#[.map (some vb),.map (some kb),.int .i64 (p.length:Nat),.int .i64 0]
def yI(B:Nat)(p:xM)(t:List Nat)(ow:Own)(W:World):Prop:=
 p.length<=10000/\∃vb kb,Blk W B (Zr vb kb p) 227/\zZ W vb Qz (p.votes.map λq=>(q.1,yY q.2))/\zZ W kb Qz (p.known.map λq=>(q.1,j3 q.2))/\vb≠kb/\ow B=t/\ow vb=t/\ow kb=t
theorem yI.loc(B:Nat)(p:xM)(t:List Nat):yC t (yI B p t):=by
 rintro ow ow' W W'⟨hl,vb,kb,hB,hv,hk,ab,o1,o2,o3⟩ hs aa;have kB:=aa B hB.lt (by rw [o1];exact Sub.rfl' t);have kv:=aa vb hv.lt (by rw [o2];exact Sub.rfl' t);have kk:=aa kb hk.lt (by rw [o3];exact Sub.rfl' t);exact⟨hl,vb,kb,hB.kept kB.2,hv.kept kv.2,hk.kept kk.2,ab,kB.1.trans o1,kv.1.trans o2,kk.1.trans o3⟩
def XY(B:Nat)(p:xM)(t:List Nat)(ow:Own)(w:World)(v:Value)(e:Ending)(w':World):Prop:=
 e=.returned v/\∃ow',zp t ow w ow' w'/\yI B p t ow' w'
def zgz(t:List Nat)(ow:Own)(w:World)(e:Ending)(w':World):Prop:=
 ∃B ow',e=.returned (.pointer (some ⟨B,0,none⟩))/\zp t ow w ow' w'/\Below w.heap.size w w'/\yI B qx t ow' w'/\w.heap.size<=B
theorem ziB(t:List Nat)(ow:Own)(w:World):Calls prog 88 #[] w (zgz t ow w):=by
 have aa:= @run_makeMap prog
 go_enter func88,ntmps88
 go_wp2;go_ret
 have hb:Below w.heap.size w (((w.alloc (.map #[] 0)).alloc (.map #[] 0)).alloc (.cells #[.map (some w.heap.size),.map (some (w.heap.size+1)),.int .i64 0,.int .i64 0] 227)):=pbx;refine⟨w.heap.size+2,ow.ext w.heap.size (λ_=>True) t,rfl,⟨Mod.of_below _ hb,λk hk=>Own.ext_old hk⟩,hb,⟨by simp [qx],w.heap.size,w.heap.size+1,Blk.new (by simp),?_,?_,by omega,Own.ext_new (by omega) trivial,Own.ext_new (by omega) trivial,Own.ext_new (by omega) trivial⟩,by omega⟩
 ·exact((zZ.made w Qz).kept (U4 _ _ _ (by simp))).kept (U4 _ _ _ (by simp;omega))
 have h:=(zZ.made (w.alloc (.map #[] 0)) Qz).kept (U4 (w.alloc (.map #[] 0)|>.alloc (.map #[] 0)) (.cells #[.map (some w.heap.size),.map (some (w.heap.size+1)),.int .i64 0,.int .i64 0] 227) _ (by simp))
 simpa [qx] using h
theorem zaj(i:Int)(w:World):Calls prog 253 #[.int .i64 i] w λe w'=>e=.returned (.bool (z8 i))/\w'=w:=by
 unfold z8
 by_cases h1:1<=i
 ·have t1:decide (1<=i)=true:=by simpa using h1
  rw [t1]
  go_enter func253,ntmps253
  go_wp2;go_ret
  exact⟨by simp,rfl⟩
 have t1:decide (1<=i)=false:=by simpa using h1
 rw [t1]
 go_enter func253,ntmps253
 go_wp2;go_ret
 exact⟨by simp,rfl⟩
theorem zgA(i:Int)(w:World):Calls prog 254 #[.int .i64 i] w λe w'=>
 e=.returned (.func (.func 305) #[] #[.pointer (some ⟨w.heap.size,0,none⟩)])/\w'=w.alloc (.cells #[.int .i64 i] 3):=by
 go_enter func254,ntmps254
 go_wp2;go_ret
 exact⟨rfl,rfl⟩
theorem zeo(cb:Nat)(n:Nat)(hn:n<=10000):
 zaF Fence.wide 2 prog 305 #[.pointer (some ⟨cb,0,none⟩)] (λx:Nat=> #[.int .i64 (x:Nat)])
  (λ(s:Nat) x=>s<10000/\x=s+1) (λs _=>s+1) (λs=>s=10000)
  (λ_ W=>Blk W cb #[.int .i64 (n:Nat)] 3) n:=by
 intro lp J Jx W hJ hJx hRd hY h0;have e0:=(hRd _ _ _ h0).cell;have hF:Fence.wide.fn 305:=trivial;have ad:Fence.wide.round=none:=rfl;have hw:IntKind.i64.wrap ((n:Int)+1)=(n:Int)+1:=by rw [N8];omega
 refine callsIn_of_wp func305 rfl hF ?_ ad;simp only [ntmps305,R8,Nat.reduceAdd,Nat.reduceSub]
 gi_wp2
 gi_loopw [3] (λp wr=>∃(k:Nat)(X:Nat->Prop),p=.int .i64 ((k:Int)+1)/\k<=10000/\J k X wr) (λp _=>10001 - (intOf p).toNat)
 case atStart=>exact⟨n,_,rfl,hn,h0⟩
 case round=>
  obtain⟨k,X,rfl,hk,aa⟩:=hrel;clear e0;have ae:IntKind.i64.wrap ((k:Int)+1+1)=(k:Int)+1+1:=by rw [N8];omega
  by_cases hlt:k<10000
  ·have t0:decide ((k:Int)+1<=10000)=true:=by simp;omega
   obtain⟨fn,tmps,assign,body,hy,hR⟩:=hY k (k+1) X wr aa ⟨hlt,rfl⟩;simp only [Int.natCast_add,Int.cast_ofNat_Int] at hy
   gi_wp2
   refine hR.mono ?_;rintro e W'(⟨rfl,ac, -⟩|⟨rfl,ab⟩)
   ·clear hR hy
    gi_wp2
    go_roundw
    case rel=>exact⟨k+1,_,by simp,by omega,ac⟩
    case measure=>simp [intOf];omega
   gi_wp2
   refine bodyPost_ret (results_none rfl _ _ _) rfl ?_;exact⟨⟨_,rfl⟩,.inr ⟨_,ab⟩⟩
  obtain rfl:k=10000:=by omega
  gi_wp2
  go_end0
  exact⟨⟨_,rfl⟩,.inl ⟨10000,X,rfl,aa⟩⟩
theorem zlF(n:Nat):le4 (n % 4294967296)=le4 n:=by
 unfold le4;simp only [List.cons.injEq,and_true];refine⟨?_,?_,?_,?_⟩<;>(apply UInt8.toNat_inj.1;simp<;>omega)
theorem zak(n:Nat)(hn:n<18446744073709551616)(w:World):Calls prog 301 #[.int .u64 n] w λe w'=>e=.returned (.string (bs (le8 n)))/\Below w.heap.size w w':=by
 have h1:IntKind.u32.wrap (n:Int)=((n % 4294967296:Nat):Int):=by rw [IntKind.wrap_u32];omega
 have h2:IntKind.u32.wrap ((n:Int) / 4294967296)=((n / 4294967296:Nat):Int):=by rw [IntKind.wrap_u32];omega
 have aa:=λW=>yT (n % 4294967296) W
 have ab:=λW=>yT (n / 4294967296) W
 rw [zlF] at aa;have ae:=JI (le4 n) (le4 (n / 4294967296)) (by simp [zY]);unfold le8;replace aa:=hid aa;replace ab:=hid ab
 go_enter func301,ntmps301
 go_wp2_with fail
 refine(aa.out _).mono ?_;rintro e w1⟨rfl,ad⟩;go_wp2_with fail
 refine(ab.out _).mono ?_;rintro e w2⟨rfl,ac⟩;go_wp2;go_ret
 exact⟨rfl,ze ad ac⟩
def zk4(S:Act->World->Prop):Exit->Act->World->Prop
 | .normal,a,w=>S a w
 |_,_,_=>False
theorem zmp {S:Act->World->Prop}{a:Act}{w:World}(h:S a w):zk4 S .normal a w:=h
theorem zlG {P:Program}{c:Code}{Q:Exit->Act->World->Prop}{a:Act}{w:World}(S:Act->World->Prop)(h:c.wp P (zk4 S) a w)(h2:∀a' w',S a' w'->Q .normal a' w'):c.wp P Q a w:=
 wp_mono h (λe a' w' hs=>by
  cases e with
  |normal=>exact h2 a' w' hs
  |_=>exact hs.elim)
theorem ziC(kind:UInt8)(i:Int)(h0:0<=i)(v:Value)(ts:List (List UInt8))(w:World)(hv:Src w v 1 ts.length (yh ts))(hl:ts.length<=1000000)(hb:zaP ts ts.length<=1073741000):
 Calls prog 255 #[.int .u8 (kind.toNat:Int),.int .i64 i,v] w λe w'=>e=.returned (.string (bs (xI kind i ts.flatten)))/\Below w.heap.size w w':=by
 have an:IntKind.u32.wrap i=((i.toNat % 4294967296:Nat):Int):=by rw [IntKind.wrap_u32];omega
 have aa:=JI [kind] (le4 (i.toNat % 4294967296)) (by simp [zY]);obtain⟨hd,ac⟩:∃hd,[kind] ++le4 (i.toNat % 4294967296)=hd:=⟨_,rfl⟩;have ag:hd.length=5:=by rw [← ac];simp [zY]
 have ab:xI kind i ts.flatten=hd++ts.flatten:=by unfold xI;rw [ac]
 rw [ac] at aa;rw [ab]
 generalize i.toNat % 4294967296=m at*
 obtain⟨va,vn,vc,ah⟩:∃a n c,v=.slice a n c:=by
  rcases hv.2 with⟨rfl, -⟩|⟨b,off,cap,rfl, -⟩
  ·exact⟨_,_,_,rfl⟩
  exact⟨_,_,_,rfl⟩
 subst ah;have ai:=zbh kind;replace ab:=hid ab;replace ac:=hid ac;replace hv:=hid hv;replace ag:=hid ag
 go_enter func255,ntmps255
 go_wp2_with fail
 refine zlG (λa' w'=>(∃p,a'={tmps:=#[.int .u8 kind.toNat,.int .i64 i,.slice va vn vc,undef,undef,undef,.string ⟨#[]⟩,.string (bs hd),undef,undef,.int .u8 kind.toNat,p,.string (bs [kind]),.int .i64 i,.int .u32 m,.string (bs (le4 m)),.string (bs hd),undef,undef,undef,undef,undef,undef,undef,undef,undef,undef,undef],defers:=[] })/\Below w.heap.size w w') ?_ ?_
 ·go_region_with (go_at_call 134;(with_reducible refine(yT _ _).mono ?_);rintro e w1 ⟨rfl,hb⟩;have hz:=hb.size;obtain⟨ak,al⟩:=zbL hb)
  all_goals go_simp
  all_goals exact zmp ⟨⟨_,rfl⟩,pbx⟩
 rintro _ W⟨⟨p,rfl⟩,ad⟩
 have ae:=hv.out.below ad;clear hv ai aa
 rcases ae.2 with⟨h0,hn⟩|⟨b,off,cap,h0,hc,hr⟩
 ·obtain⟨rfl,rfl,rfl⟩:va=none/\vn=0/\vc=0:=by simpa using h0
  obtain rfl:ts=[]:=N9 hn;clear ae;go_wp2
  go_loop [7,19] (λp7 p19=>p19=.int .i64 0/\p7=.string (bs hd)) (λ_ _=>0)
  case atStart=>exact⟨rfl,rfl⟩
  case round=>
   obtain⟨rfl,rfl⟩:=hrel;go_wp2;go_ret
   exact⟨by simp,ad⟩
 obtain⟨rfl,rfl,rfl⟩:va=some ⟨b,off,none⟩/\vn=ts.length/\vc=cap:=by simpa using h0
 clear h0 ae;go_wp2
 go_loop [7,19] (λp7 p19=>∃k:Nat,k<=ts.length/\p19=.int .i64 k/\p7=.string (bs (hd++(ts.take k).flatten))) (λ_ p19=>ts.length - (intOf p19).toNat)
 case atStart=>exact⟨0,Nat.zero_le _,rfl,by simp⟩
 case round=>
  obtain⟨k,hk,rfl,rfl⟩:=hrel
  by_cases hlt:k<ts.length
  ·obtain⟨x,hx⟩:∃x,ts[k]?=some x:=⟨_,N3 hlt⟩
   have am:W.cell? ⟨b,off+k,none⟩=some (.string (bs x)):=hr k _ (by simp [yh,hx]);have aj:=Xm ts (k+1);have af:=Yi ts k x hx;rw [Yj hx] at aj;have aa:=JI (hd++(ts.take k).flatten) x (by have h2:zaP ts k=(ts.take k).flatten.length:=rfl;have:=ag.out;rw [N1];omega) W;rw [List.append_assoc,← af] at aa;replace af:=hid af;replace hx:=hid hx;clear hr;go_wp2
   go_round
   case rel=>exact⟨k+1,by omega,by go_num,rfl⟩
   case measure=>simp [intOf];omega
  obtain rfl:k=ts.length:=by omega
  rw [List.take_length];clear hr;go_wp2;go_ret
  exact⟨rfl,ad⟩
theorem zal(B:Nat)(p:xM)(t:List Nat)(ow:Own)(i:Int)(w:World)(h:yI B p t ow w):
 Calls prog 299 #[.pointer (some ⟨B,0,none⟩),.int .i64 i] w λe w'=>e=.returned (.int .i64 (if z8 i then 0 else 2))/\w'=w:=by
 obtain⟨hl,vb,kb,hB, -⟩:=h;unfold Zr at hB;have e0:=hB.cell;have hi:=zaj i w
 cases hin:z8 i
 rw [hin] at hi
 rotate_left
 rw [hin] at hi;have h1:1<=i:=by simp [z8] at hin;omega
 have t1:decide (i<=0)=false:=by simp;omega
 all_goals
  replace hi:=hid hi;clear hB;replace hin:=hid hin
  go_enter func299,ntmps299
  go_wp2_with fail
  refine hi.out.mono ?_;rintro e w1⟨rfl,rfl⟩;go_wp2;go_ret
  exact⟨rfl,rfl⟩
theorem QF(b:Nat)(w:World):(binOp .eql 224 (.map (some b)) (.map none)).run prog w=.ok (.bool false) w:=by kernel_rfl
theorem XZ(b:Nat)(w:World):(binOp .eql 225 (.map (some b)) (.map none)).run prog w=.ok (.bool false) w:=by kernel_rfl
theorem zam(B:Nat)(p:xM)(t:List Nat)(ow:Own)(i:Int)(v:jE)(w:World)(h:yI B p t ow w):
 Calls prog 213 #[.pointer (some ⟨B,0,none⟩),.int .i64 i,yY v] w (XY B {p with votes:=put i v p.votes} t ow w (.tuple #[])):=by
 obtain⟨hl,vb,kb,hB,hv,hk,ad,o1,o2,o3⟩:=h;unfold Zr at hB;have af:B≠vb:=hB.ne_map hv;have ah:B≠kb:=hB.ne_map hk;obtain⟨W1,aa⟩:∃W1,W1=w.alloc (.cells #[.int .u64 (v.1:Nat),.int .u64 (v.2.1:Nat),.string (bs v.2.2)] 317):=⟨_,rfl⟩;have ab:Below w.heap.size w W1:=by rw [aa];exact pbx
 have ae:=hB.call ab;have kx:Blk W1 w.heap.size #[.int .u64 (v.1:Nat),.int .u64 (v.2.1:Nat),.string (bs v.2.2)] 317:=by rw [aa];exact Blk.new rfl
 have ac:zZ W1 vb Qz (p.votes.map λq=>(q.1,yY q.2)):=hv.kept (ab.block vb hv.lt);obtain⟨o,hu,hm⟩:=(ac.kept (w':=W1.drew) rfl).update qw Tryz.underlying224 i (yY v);rw [Y5] at hm;have ag:vb<W1.heap.size:=ac.lt;unfold yY Qz at hu;unfold yY;have e0:=hB.cell;have l0:=hB.lt;have ai:=QF vb;replace hm:=hid hm;replace hv:=hid hv;replace hk:=hid hk;clear ac
 go_enter func213,ntmps213
 go_wp2_with fail
 rw [← aa];clear aa;refine zd [O 0,O 1,O 2,O 3,O 4,O 5,E 6] (some 6) (λw'=>Blk w' B #[.map (some vb),.map (some kb),.int .i64 (p.length:Nat),.int .i64 0] 227/\Blk w' w.heap.size #[.int .u64 (v.1:Nat),.int .u64 (v.2.1:Nat),.string (bs v.2.2)] 317/\True) (by kernel_rfl) (by kernel_rfl) ⟨ae.drew,kx.drew,trivial⟩ ?_
 refine Wb ?_
 refine zc rfl (λK hK=>?_);go_wp2;refine hK.out _ _ (λhh=>absurd rfl hh) ?_;clear hK K;refine zg ?_;go_wp2;go_end0
 refine⟨rfl,ow,⟨?_,λ_ _=>rfl⟩,hl,vb,kb,?_,hm.out,?_,ad,o1,o2,o3⟩
 ·exact((Mod.of_below (λk=>Sub t (ow k)) ab).thenDrew).thenPut (by rw [o2];exact Sub.rfl' t) o
 ·exact ae.drew.putObj af o
 exact hk.out.kept ((U1 (Ne.symm ad)).trans (ab.block kb hk.out.lt))
theorem zcN(w:World):(zeroValue 317).run prog w=.ok (yY (0,0,[])) w:=by kernel_rfl
theorem Z4(w:World):(zeroValue 375).run prog w=.ok (j3 []) w:=by kernel_rfl
theorem zcO(p:xM)(i:Int):(zH i (p.votes.map λq=>(q.1,yY q.2))).getD (yY (0,0,[]))=yY (ja p i):=by
 rw [xO];unfold ja;cases zH i p.votes<;>rfl
theorem YH(B:Nat)(p:xM)(t:List Nat)(ow:Own)(i:Int)(w:World)(h:yI B p t ow w):
 Calls prog 189 #[.pointer (some ⟨B,0,none⟩),.int .i64 i] w λe w'=>e=.returned (.tuple #[.string (bs ((zH i p.known).getD [])),.bool (zH i p.known).isSome])/\Below w.heap.size w w':=by
 obtain⟨hl,vb,kb,hB,hv,hk,ab,o1,o2,o3⟩:=h;unfold Zr at hB;have e0:=hB.cell;have aa:=hk.lookup_ok qw Tryz.underlying225 (Z4 w) i;rw [xO,Option.isSome_map,show((zH i p.known).map j3).getD (j3 [])=j3 ((zH i p.known).getD [])by cases zH i p.known<;>rfl] at aa;unfold j3 Qz at aa
 generalize(zH i p.known).getD []=x at*
 generalize(zH i p.known).isSome=b at*
 clear hB hv hk
 go_enter func189,ntmps189
 go_wp2;go_ret2
 exact⟨rfl,pbx⟩
theorem zfo(kind:UInt8)(i:Int)(h0:0<=i)(x:List UInt8)(b:Nat)(w:World)(hc:w.cell? ⟨b,0,none⟩=some (.string (bs x)))(hl:x.length<=1000000):
 Calls prog 255 #[.int .u8 (kind.toNat:Int),.int .i64 i,.slice (some ⟨b,0,none⟩) 1 1] w λe w'=>e=.returned (.string (bs (xI kind i x)))/\Below w.heap.size w w':=by
 have aa:Src w (.slice (some ⟨b,0,none⟩) 1 1) 1 [x].length (yh [x]):=⟨rfl,.inr ⟨b,0,1,rfl,N0 _,λj u hu=>by
  match j,hu with
  |0,hu=>cases hu;exact hc⟩⟩
 have:=ziC kind i h0 _ [x] w aa (by simp) (by simp [zaP];omega)
 rwa [show [x].flatten=x by simp] at this
theorem zks(kind:UInt8)(i:Int)(h0:0<=i)(x y:List UInt8)(b:Nat)(w:World)(hc:w.cell? ⟨b,0,none⟩=some (.string (bs x)))(hc1:w.cell? ⟨b,1,none⟩=some (.string (bs y)))(hl:x.length<=1000000)(hl:y.length<=1000000):
 Calls prog 255 #[.int .u8 (kind.toNat:Int),.int .i64 i,.slice (some ⟨b,0,none⟩) 2 2] w λe w'=>e=.returned (.string (bs (xI kind i (x++y))))/\Below w.heap.size w w':=by
 have aa:Src w (.slice (some ⟨b,0,none⟩) 2 2) 1 [x,y].length (yh [x,y]):=⟨rfl,.inr ⟨b,0,2,rfl,N0 _,λj u hu=>by
  match j,hu with
  |0,hu=>cases hu;exact hc
  |1,hu=>cases hu;exact hc1⟩⟩
 have:=ziC kind i h0 _ [x,y] w aa (by simp) (by simp [zaP];omega)
 rwa [show [x,y].flatten=x++y by simp] at this
theorem zfp(n:Nat):(le8 n).length=8:=by simp [le8,zY]
def ziD(r:jE×List UInt8×Int):Value:=.tuple #[yY r.1,.string (bs r.2.1),.int .i64 r.2.2]
theorem zbk(B:Nat)(p:xM)(t:List Nat)(ht:t≠ [])(ow:Own)(i:Int)(b:Nat)(hb:b<18446744073709551616)(w:World)(h:yI B p t ow w):
 Calls prog 249 #[.pointer (some ⟨B,0,none⟩),.int .i64 i,.int .u64 b] w (XY B (zA p i b).1 t ow w (ziD (zA p i b).2)):=by
 have aa:=λW hW=>zal B p t ow i W hW
 have ac:zA p i b=if z8 i=false then(p,(0,0,[]),[],2)else if(yl (ja p i) b).2≠0 then(p,(0,0,[]),[],(yl (ja p i) b).2)else({p with votes:=put i (yl (ja p i) b).1 p.votes},(yl (ja p i) b).1,xI 112 i (le8 b),0):=rfl
 have h0:=h;obtain⟨hl,vb,kb,hB,hv, -⟩:=h;unfold Zr at hB
 cases hin:z8 i
 ·rw [hin] at aa
  rw [if_pos hin] at ac;rw [ac];replace ac:=hid ac;replace aa:=hid aa;replace h0:=hid h0;replace hin:=hid hin;unfold ziD yY;clear hB hv
  go_enter func249,ntmps249
  go_wp2_with fail
  refine(aa.out _ ((yI.loc B p t).below h0.out (pbx))).mono ?_;rintro e w1⟨rfl,rfl⟩;go_wp2;exact bodyPost_ret (v:=.tuple #[.agg #[.int .u64 0,.int .u64 0,.string ⟨#[]⟩],.string ⟨#[]⟩,.int .i64 2]) (by simp [results,Tryz.results249,go_sem]) rfl ⟨rfl,ow,zp.of_below t ow (pbx),(yI.loc B p t).below h0.out (pbx)⟩
 rw [hin] at aa
 rw [if_neg (by simp [hin])] at ac;have a9:0<=i:=by simp [z8] at hin;omega
 have ae:=λW=>zcM (ja p i) b W
 have af:∀W,Below w.heap.size w W->(Instr.lookup 224 (.map (some vb)) (.int .i64 i) false).run prog W=.ok (yY (ja p i)) W:=λW hW=>by
  rw [← zcO p i];exact(hv.kept (hW.block vb hv.lt)).lookup qw Tryz.underlying224 (zcN W) i
 obtain⟨⟨⟨p1,p2,p3⟩,er⟩,ap⟩:∃r,yl (ja p i) b=r:=⟨_,rfl⟩;rw [ap] at ae ac;have a2:=af (w.alloc (.cells #[.int .u64 0,.int .u64 0,.string ⟨#[]⟩] 317)) (pbx);unfold zbj at ae;unfold yY at ae a2;simp only at ac ae;have e0:=hB.cell;have l0:=hB.lt;replace ap:=hid ap;replace af:=hid af;replace ae:=hid ae;replace aa:=hid aa;replace h0:=hid h0;replace hin:=hid hin;clear hB hv
 by_cases he:er=0
 ·subst he
  rw [if_neg (by simp)] at ac;rw [ac];replace ac:=hid ac;have ab:=λW hW=>zam B p t (ow.cut w) i (p1,p2,p3) W hW
  have ah:=λW=>zak b hb W
  unfold ziD;unfold yY at ab⊢;simp only at ab⊢;replace ab:=hid ab;replace ah:=hid ah;obtain⟨rc,ax⟩:∃rc,xI 112 i (le8 b)=rc:=⟨_,rfl⟩;have ad:=λg W hc=>zfo 112 i a9 (le8 b) g W hc (by rw [zfp];omega)
  rw [ax] at ad⊢;replace ax:=hid ax;replace ad:=hid ad
  go_enter func249,ntmps249
  go_wp2_with fail
  refine(aa.out _ ((yI.loc B p t).below h0.out (pbx))).mono ?_;rintro e w1⟨rfl,rfl⟩;go_wp2_with fail
  refine(ae.out _).mono ?_;rintro e w1⟨rfl,aw⟩;clear a2;have k6:Blk w1 w.heap.size #[.int .u64 0,.int .u64 0,.string ⟨#[]⟩] 317:=Blk.call (bkx) aw;have ao:Below w.heap.size w w1:=pbx;obtain⟨W2,al⟩:∃W2,W2=w1.alloc (.cells #[.int .u64 p1,.int .u64 p2,.string (bs p3)] 317):=⟨_,rfl⟩;have a1:Below w.heap.size w W2:=by rw [al];exact pbx
  have am:Blk W2 w.heap.size #[.int .u64 0,.int .u64 0,.string ⟨#[]⟩] 317:=by rw [al];exact k6.alloc _
  have az:Blk W2 w1.heap.size #[.int .u64 p1,.int .u64 p2,.string (bs p3)] 317:=by rw [al];exact Blk.new rfl
  have a8:=ao.size;have bc:=k6.lt;clear k6;go_wp2_with fail
  rw [← al];refine(ab.out _ ((yI.loc B p t).cut h0.out a1)).mono ?_;rintro e w3⟨rfl,aq,ak,h3⟩;have a7:=am.kept (ak.free ht (N0 _) am.lt).1;have a4:=az.kept (ak.free ht a8 az.lt).1;have ai:=zp.wrap a1 ak;have bb:=(ak.free ht (N0 _) am.lt).2;clear am az ak;replace h3:=hid h3;replace ai:=hid ai;go_wp2_with fail
  refine zd [O 0,O 1,O 2,E 3,E 4,E 5,E 6,O 7,O 8] none (λw'=>Blk w' w1.heap.size #[.int .u64 p1,.int .u64 p2,.string (bs p3)] 317/\True) (by kernel_rfl) (by kernel_rfl) ⟨a4.drew,trivial⟩ ?_
  refine Wd ?_
  refine zc rfl (λK hK=>?_);go_wp2_with fail
  refine(ah.out _).mono ?_;rintro e w4⟨rfl,ar⟩;have au:=a4.drew.call ar;have ba:=a7.drew.call ar;go_wp2;refine hK.out _ _ (λ_=>⟨au,trivial⟩) ?_;clear hK K;refine zc rfl (λK hK=>?_);go_wp2;refine hK.out _ _ (λ_=>⟨au.alloc _,trivial⟩) ?_;clear hK K;refine zc rfl (λK hK=>?_);go_wp2_with fail
  refine(ad.out _ _ (by simp)).mono ?_;rintro e w5⟨rfl,a0⟩;have a5:=(au.alloc _).call a0;have an:=(ba.alloc _).call a0;go_wp2;refine hK.out _ _ (λ_=>⟨a5,trivial⟩) ?_;clear hK K;have c5:=an.cell;have f5:=an.frozen;have l5:=an.lt;refine zc rfl (λK hK=>?_);go_wp2;have ag:w1.heap.size≠w.heap.size:=by omega
  refine hK.out _ _ (λ_=>⟨((a5.other (p:=⟨w.heap.size,0,none⟩) ag _).other (p:=⟨w.heap.size,1,none⟩) ag _).other (p:=⟨w.heap.size,2,none⟩) ag _,trivial⟩) ?_;clear hK K
  refine Wd ?_
  refine zg ?_;have rr:=(((an.set (o:=0) (.int .u64 p1)).set (o:=1) (.int .u64 p2)).set (o:=2) (.string (bs p3))).cell;have aj:Below w3.heap.size w3 w5:=ze (zi (ze (zm (N2 _ _)) ar) _) a0;have a6:zp t ow w aq w5:=ai.out.trans (zp.of_below t aq aj);go_wp2;refine bodyPost_ret (v:=.tuple #[.agg #[.int .u64 p1,.int .u64 p2,.string (bs p3)],.string (bs rc),.int .i64 0]) (by simp [results,Tryz.results249,go_sem,rr]) rfl ⟨rfl,aq,?_,?_⟩
  ·exact((a6.setNew ⟨w.heap.size,0,none⟩ _ (N0 _)).setNew ⟨w.heap.size,1,none⟩ _ (N0 _)).setNew ⟨w.heap.size,2,none⟩ _ (N0 _)
  refine yI.loc B _ t _ _ _ _ ((yI.loc B _ t).below h3.out aj) (by simp) (λk hk hs=>⟨rfl,?_⟩)
  have ay:k≠w.heap.size:=λe=>by subst e;rw [bb] at hs;exact zj ht hs
  exact(N4 _ _ _ _ ay).trans ((N4 _ _ _ _ ay).trans (N4 _ _ _ _ ay))
 rw [if_pos he] at ac
 rw [ac];replace ac:=hid ac;have t1:(er !=0)=true:=by simpa using he
 replace he:=hid he;unfold ziD yY
 go_enter func249,ntmps249
 go_wp2_with fail
 refine(aa.out _ ((yI.loc B p t).below h0.out (pbx))).mono ?_;rintro e w1⟨rfl,rfl⟩;go_wp2_with fail
 refine(ae.out _).mono ?_;rintro e w1⟨rfl,aw⟩;have k6:Blk w1 w.heap.size #[.int .u64 0,.int .u64 0,.string ⟨#[]⟩] 317:=Blk.call (bkx) aw;have c6:=k6.cell;have f6:=k6.frozen;have l6:=k6.lt;have ao:Below w.heap.size w w1:=pbx;have rr:=((((k6.set (o:=0) (.int .u64 0)).set (o:=1) (.int .u64 0)).set (o:=2) (.string ⟨#[]⟩)).alloc (.cells #[.int .u64 p1,.int .u64 p2,.string (bs p3)] 317)).cell;have a3:Below w.heap.size w ((((w1.setCell ⟨w.heap.size,0,none⟩ (.int .u64 0)).setCell ⟨w.heap.size,1,none⟩ (.int .u64 0)).setCell ⟨w.heap.size,2,none⟩ (.string ⟨#[]⟩)).alloc (.cells #[.int .u64 p1,.int .u64 p2,.string (bs p3)] 317)):=zi (zu (zu (zu ao (by simp) _) (by simp) _) (by simp) _) _;go_wp2;exact bodyPost_ret (v:=.tuple #[.agg #[.int .u64 0,.int .u64 0,.string ⟨#[]⟩],.string ⟨#[]⟩,.int .i64 er]) (by simp [results,Tryz.results249,go_sem,rr]) rfl ⟨rfl,ow,zp.of_below t ow a3,(yI.loc B p t).below h0.out a3⟩
