/- PARTS OF THE PROOF. -/
import Derived.Shelf.SlSortCmp.WholeK
import Derived.Ground.SlsfProg
import Derived.Maps.RangeRun
import Derived.Test.YtofppfoioodblaaGreatDoorDA16
set_option maxRecDepth 8000
set_option maxHeartbeats 4000000
namespace Go.Proofs.YtofppfoioodblaaGreatDoor
open Go Go.RowKit Go.Shelf Go.Extern.Stop Go.Stop Go.Extern
attribute [local go_sem] Oper.semAt_some zB zo
theorem Z3 {W:World}{l:List zx}{b off cap:Nat}(h:Src W (.slice (some ⟨b,off,none⟩) l.length cap) 3 l.length (l.flatMap zh)){k:Nat}{x:zx}(hx:l[k]?=some x):
 W.cell? ⟨b,off+k*3,none⟩=some (.int .i64 x.1.1)/\W.cell? ⟨b,off+k*3+1,none⟩=some (.int .u32 x.1.2)/\W.cell? ⟨b,off+k*3+2,none⟩=some (.string (bs x.2)):=by
 rcases h.2 with⟨h, -⟩|⟨b',off',cap',h, -,hr⟩
 ·cases h
 cases h
 have aa:∀j u,(zh x)[j]?=some u->j<3->W.cell? ⟨b,off+(k*3+j),none⟩=some u:=λj u hu hj=>hr _ u ((Jf l k x hx j hj).trans hu)
 exact⟨aa 0 _ rfl (by omega),aa 1 _ rfl (by omega),aa 2 _ rfl (by omega)⟩
theorem zei(v:Value)(l:List zx)(w:World)(hv:Src w v 3 l.length (l.flatMap zh))(hl:l.length<=1073741824):
 Calls Tryz.prog 266 #[v] w λe w'=>e=.returned (.bool (l.all zz))/\Below w.heap.size w w':=by
 rcases hv.2 with⟨rfl,hn⟩|⟨b,off,cap,rfl,hc, -⟩
 ·obtain rfl:l=[]:=N9 hn
  clear hv
  go_enter Tryz.func266,Tryz.ntmps266
  go_wp2
  go_loop [7] (λp7=>p7=.int .i64 0) (λ_=>0)
  case atStart=>rfl
  case round=>
   subst hrel;go_wp2;go_ret
   exact⟨rfl,N2 _ _⟩
 go_enter Tryz.func266,Tryz.ntmps266
 go_wp2
 go_loopw [7] (λp7 wr=>∃k:Nat,k<=l.length/\p7=.int .i64 k/\(l.take k).all zz=true/\Below w.heap.size w wr) (λp7 _=>l.length - (intOf p7).toNat)
 case atStart=>exact⟨0,Nat.zero_le _,rfl,rfl,N2 _ _⟩
 case round=>
  obtain⟨k,hk,rfl,aa,ad⟩:=hrel
  by_cases hlt:k<l.length
  ·obtain⟨x,hx⟩:∃x,l[k]?=some x:=⟨_,N3 hlt⟩
   obtain⟨c0,c1,c2⟩:=Z3 (hv.below ad) hx;have ab:(l.take (k+1)).all zz=((l.take k).all zz && zz x):=by rw [List.take_add_one,hx];simp [List.all_append]
   have ae:=jx c0;obtain⟨⟨xi,xc⟩,xd⟩:=x;simp only at c0 c1 c2 ae;have hr:=λW=>vS xi xc xd W
   cases hrx:zz ((xi,xc),xd)
   ·rw [hrx] at hr
    have ac:l.all zz=false:=by
     rw [Bool.eq_false_iff];intro h;rw [List.all_eq_true] at h;have:=h _ (List.mem_of_getElem? hx);rw [hrx] at this;cases this
    replace hr:=hid hr;replace hx:=hid hx;replace ab:=hid ab;replace aa:=hid aa;replace ac:=hid ac;go_wp2_with fail
    refine(hr.out _).mono ?_;rintro e w1⟨rfl,ag⟩;go_wp2;go_ret
    exact⟨by rw [ac.out];rfl,pbx⟩
   rw [hrx] at hr ab
   rw [aa] at ab;replace hr:=hid hr;replace hx:=hid hx;replace ab:=hid ab;replace aa:=hid aa;go_wp2_with fail
   refine(hr.out _).mono ?_;rintro e w1⟨rfl,ag⟩;have af:Below w.heap.size w w1:=pbx;go_wp2
   go_roundw
   case rel=>exact⟨k+1,by omega,by go_num,ab.out,af⟩
   case measure=>simp [intOf];omega
  obtain rfl:k=l.length:=by omega
  rw [List.take_length] at aa;replace aa:=hid aa;go_wp2;go_ret
  exact⟨by rw [aa.out];rfl,ad⟩
theorem zcK {p:xn}{l:List zx}{k:Nat}{x:zx}(hx:l[k]?=some x):(l.take (k+1)).foldl yM p=yM ((l.take k).foldl yM p) x:=by
 rw [List.take_add_one,hx];simp [List.foldl_append]
def zkl(B:Nat)(p:xn)(t:List Nat)(ow:Own)(w:World)(e:Ending)(w':World):Prop:=
 ∃v,e=.returned v/\zp t ow w ow w'/\jY B p t ow w'
theorem zah(B:Nat)(p:xn)(t:List Nat)(ow:Own)(v:Value)(l:List zx)(w:World)(h:jY B p t ow w)(hv:Src w v 3 l.length (l.flatMap zh))(hl:l.length<=1073741824)(hvn:∀a n c,v=.slice (some a) n c->¬Sub t (ow a.block)):
 Calls Tryz.prog 217 #[.pointer (some ⟨B,0,none⟩),v] w (zkl B (JQ p l) t ow w):=by
 have h0:=h;obtain⟨bv,wb,db,hB,ar,au,a6,o1,o2,o3⟩:=h;have af:=λW hW=>YF B wb db W hW
 have aa:=λW hW=>zei v l W hW hl
 unfold xB at hB af;have ao:JQ p l=if l.all zz then l.foldl yM p else p:=rfl
 obtain⟨va,vc,rfl⟩:=hv.shape
 cases hall:l.all zz
 ·rw [hall] at aa
  rw [if_neg (by simp [hall])] at ao;rw [ao];replace ao:=hid ao;replace hall:=hid hall;replace af:=hid af;replace aa:=hid aa;replace h0:=hid h0;replace hvn:=hid hvn;clear ar au
  go_enter Tryz.func217,Tryz.ntmps217
  go_wp2_with fail
  refine(af.out _ hB).mono ?_;rintro e w1⟨rfl,ba⟩;obtain rfl:=ba.symm;go_wp2_with fail
  refine(aa.out _ hv).mono ?_;rintro e w2⟨rfl,aw⟩;go_wp2;go_ret2
  exact⟨_,rfl,zp.of_below t ow aw,(jY.loc B p t).below h0.out aw⟩
 rw [hall] at aa
 rw [if_pos hall] at ao;rw [ao];replace ao:=hid ao;replace hall:=hid hall;replace af:=hid af;replace aa:=hid aa;replace h0:=hid h0;replace hvn:=hid hvn
 go_enter Tryz.func217,Tryz.ntmps217
 go_wp2_with fail
 refine(af.out _ hB).mono ?_;rintro e w1⟨rfl,ba⟩;obtain rfl:=ba.symm;go_wp2_with fail
 refine(aa.out _ hv).mono ?_;rintro e W0⟨rfl,aw⟩;go_wp2
 go_loopw [6,16] (λp6 p16 wr=>∃(k:Nat)(acc:List zx),k<=l.length/\p16=.int .i64 k/\acc.length<=k/\Row wr 78 3 p6 acc.length (acc.flatMap zh)/\(∀g,p6.ownBlock=some g->w.heap.size<=g)/\Mod (λj=>j=wb∨j=db) w wr/\VI ((l.take k).foldl yM p)/\zZ wr wb idV (((l.take k).foldl yM p).waits.map λq=>(q.1,vO q.2))/\zZ wr db idV (((l.take k).foldl yM p).done.map λq=>(q.1,Jy))) (λ_ p16 _=>l.length - (intOf p16).toNat)
 case atStart=>exact⟨0,[],Nat.zero_le _,rfl,N0 _,jc _ _ _,by simp [Value.ownBlock],Mod.of_below _ aw,bv,ar.kept (aw.block _ ar.lt),au.kept (aw.block _ au.lt)⟩
 case round=>
  obtain⟨k,acc,hk,rfl,bt,ad,ag,aj,an,ai,ae⟩:=hrel;have bc:=hB.mod aj (λe=>by rcases e with e|e;exact hB.ne_map ar e;exact hB.ne_map au e)
  by_cases hlt:k<l.length
  ·obtain⟨x,hx⟩:∃x,l[k]?=some x:=⟨_,N3 hlt⟩
   have a7:Src wr (.slice va l.length vc) 3 l.length (l.flatMap zh):=hv.mod aj (λa n c h e=>by rcases e with e|e;exact hvn.out a n c h (by rw [e,o2];exact Sub.rfl' t);exact hvn.out a n c h (by rw [e,o3];exact Sub.rfl' t))
   obtain⟨b,bi,b2⟩:∃b bi,va=some ⟨b,bi,none⟩:=by
    rcases a7.2 with⟨h,hn⟩|⟨b',off',cap',h, -, -⟩
    ·omega
    cases h;exact⟨_,_,rfl⟩
   subst b2;obtain⟨c0,c1,c2⟩:=Z3 a7 hx;have ah:=zcK (p:=p) hx;have bz:=jx c0
   generalize(l.take k).foldl yM p=q at*
   obtain⟨⟨xi,xc⟩,xd⟩:=x;simp only at c0 c1 c2 bz;have ac:=λW hW=>zfg B q t ow xi xc W hW
   have bp:yM q ((xi,xc),xd)=if(zH (xi,xc) q.done).isSome then q else {waits:=del (xi,xc) q.waits,done:=put (xi,xc) () q.done} :=rfl
   rw [bp] at ah;have a8:jY B q t ow (wr.alloc (.cells #[.int .i64 xi,.int .u32 xc,.string (bs xd)] 78)):=⟨an,wb,db,bc.alloc _,ai.kept (U4 _ _ _ ai.lt),ae.kept (U4 _ _ _ ae.lt),a6,o1,o2,o3⟩;obtain⟨ra,rn,rc,rfl⟩:=ad.shape;replace hx:=hid hx;replace hv:=hid hv;replace a7:=hid a7;replace a8:=hid a8;replace ag:=hid ag
   cases hd:(zH (xi,xc) q.done).isSome
   ·rw [hd] at ac ah
    rw [if_neg (by simp)] at ah;replace ac:=hid ac;replace ah:=hid ah;replace hd:=hid hd;go_wp2_with fail
    refine(ac.out _ a8.out).mono ?_;rintro e w1⟨rfl,a3⟩;clear c0 c1 c2;have ab:Below wr.heap.size wr w1:=ze (zi (N2 _ _) _) a3;have az:=bc.call ab;have a0:Blk w1 wr.heap.size #[.int .i64 xi,.int .u32 xc,.string (bs xd)] 78:=Blk.call (Blk.new rfl) a3;have bl:=ai.kept (ab.block _ ai.lt);have bm:=ae.kept (ab.block _ ae.lt);have b0:B≠wb:=hB.ne_map ar;have bf:B≠db:=hB.ne_map au;have be:wr.heap.size≠wb:=by have:=ai.lt;omega
    have bn:wr.heap.size≠db:=by have:=ae.lt;omega
    obtain⟨od,bh,a2⟩:=(bm.kept (w':=w1.drew) rfl).update zaN Tryz.underlying229 ((xi,xc):MId) Jy;have bo:=Y5 (λ_:Unit=>Jy) ((xi,xc):MId) () q.done;rw [bo] at a2;unfold Jy idV at bh;go_wp2_with fail
    refine zd [O 0,O 1,O 2,O 3,O 4,O 5,E 6,E 7] none (λw'=>Blk w' B #[.map (some wb),.map (some db)] 231/\Blk w' wr.heap.size #[.int .i64 xi,.int .u32 xc,.string (bs xd)] 78/\True) (by kernel_rfl) (by kernel_rfl) ⟨az.drew,a0.drew,trivial⟩ ?_
    refine Wb ?_
    refine zc rfl (λK hK=>?_);go_wp2;refine hK.out _ _ (λ_=>⟨az.drew,a0.drew,trivial⟩) ?_;clear hK K;refine zc rfl (λK hK=>?_);go_wp2;refine hK.out _ _ (λ_=>⟨az.drew.putObj bf od,a0.drew.putObj bn od,trivial⟩) ?_;clear hK K;refine zg ?_;obtain⟨W2,aq⟩:∃W2,W2=w1.drew.putObj db od:=⟨_,rfl⟩;have bd:Blk W2 B #[.map (some wb),.map (some db)] 231:=by rw [aq];exact az.drew.putObj bf od
    have a5:Blk W2 wr.heap.size #[.int .i64 xi,.int .u32 xc,.string (bs xd)] 78:=by rw [aq];exact a0.drew.putObj bn od
    have bg:zZ W2 wb idV (q.waits.map λq=>(q.1,vO q.2)):=by rw [aq];exact bl.kept (w:=w1) (U1 a6)
    rw [← aq] at a2;have b4:Mod (λj=>j=wb∨j=db) wr W2:=by rw [aq];exact((Mod.of_below (λj=>j=wb∨j=db) ab).thenDrew).thenPut (.inr rfl) od
    rw [← aq];clear aq bh az a0 bl bm;go_wp2_with fail
    obtain⟨a1,ap,ay⟩:=(bg.kept (w':=W2.drew) rfl).delete zaN Tryz.underlying228 #[228,76] 0 rfl ((xi,xc):MId);have bu:=zaL vO ((xi,xc):MId) q.waits;rw [bu] at ay;unfold idV at ap;refine zd [O 0,O 1,O 2,O 3,O 4,O 5,E 6] none (λw'=>Blk w' B #[.map (some wb),.map (some db)] 231/\Blk w' wr.heap.size #[.int .i64 xi,.int .u32 xc,.string (bs xd)] 78/\True) (by kernel_rfl) (by kernel_rfl) ⟨bd.drew,a5.drew,trivial⟩ ?_
    refine Wb ?_
    refine zc rfl (λK hK=>?_);refine xG rfl _ _ _ _ rfl rfl rfl ap ?_;unfold wpList;refine hK.out _ _ (λ_=>⟨bd.drew.putObj b0 a1,a5.drew.putObj be a1,trivial⟩) ?_;clear hK K;refine zg ?_;obtain⟨W3,ax⟩:∃W3,W3=W2.drew.putObj wb a1:=⟨_,rfl⟩;have b1:Blk W3 wr.heap.size #[.int .i64 xi,.int .u32 xc,.string (bs xd)] 78:=by rw [ax];exact a5.drew.putObj be a1
    have bb:zZ W3 db idV ((put (xi,xc) () q.done).map λq=>(q.1,Jy)):=by rw [ax];exact a2.kept (w:=W2) (U1 (Ne.symm a6))
    rw [← ax] at ay;have a4:Mod (λj=>j=wb∨j=db) wr W3:=by rw [ax];exact(b4.thenDrew).thenPut (.inl rfl) a1
    rw [← ax];clear ax ap bd a5 bg a2;have b5:=b1.cell;have am:=ad.mod a4 (λg hg e=>by have:=ag.out g hg;have h1:=ar.lt;have h2:=au.lt;rcases e with e|e<;>omega);obtain⟨v',W4,a9,ak,bk,al⟩:=zM zdI (am.below ((N2 _ _).alloc (N0 _) (.cells #[.int .i64 xi,.int .u32 xc,.string (bs xd)] 78))) (jD (n:=1) (size:=3) (cap:=1) (Blk.new (w:=W3) (cs:=#[.int .i64 xi,.int .u32 xc,.string (bs xd)]) (t:=78) rfl) rfl (N0 1)) (jA [((xi,xc),xd)]) (by omega) 42;obtain⟨sa,sm,sc,rfl⟩:=ak.shape;replace ak:=hid ak;replace al:=hid al;replace am:=hid am;replace ad:=hid ad;replace ay:=hid ay;replace bb:=hid bb;replace ai:=hid ai;replace ae:=hid ae
    go_wp2_with (at_builtin
                 refine zv rfl _ _ _ rfl rfl rfl a9 ?_)
    go_roundw
    case rel=>
     have b3:Mod (λj=>j=wb∨j=db) w W4:=by
      have br:=aj.trans a4 (Z:=λj=>j=wb∨j=db) (λ_ _ e=>e) (λ_ _ e=>e);have h5:=(br.thenAlloc (.cells #[.int .i64 xi,.int .u32 xc,.string (bs xd)] 78)).trans (Mod.grown (X:=λk=>(Value.slice ra rn rc).ownBlock=some k) bk (λk h=>h)) (Z:=λj=>(j=wb∨j=db)∨(Value.slice ra rn rc).ownBlock=some j) (λ_ _ e=>.inl e) (λ_ _ e=>.inr e);exact h5.mono (λj hj e=>by rcases e with e|e;exact e;have:=ag.out j e;omega)
     have bj:∀j,(j=wb∨j=db)->W4.heap[j]?=W3.heap[j]?:=λj hj=>by
      have b6:j<w.heap.size:=by rcases hj with e|e;rw [e];exact ar.lt;rw [e];exact au.lt
      have bw:=a4.size;have bq:=aj.size;exact(bk.block j (by simp;omega) (λe=>by have:=ag.out j e.symm;omega)).trans (U4 _ _ _ (by omega))
     refine⟨k+1,acc++ [((xi,xc),xd)],by omega,by go_num,by simp;omega,?_,λg hg=>?_,b3,?_,?_,?_⟩
     ·rw [N1,U2,U5];exact ak.out
     ·have h5:=al.out
      rw [hg] at h5
      rcases h5 with h|h
      ·exact ag.out g h.symm
      have:=a4.size;have:=aj.size;simp at h;omega
     ·rw [ah.out];exact an.less _ _
     ·rw [ah.out];exact ay.out.kept (bj wb (.inl rfl))
     rw [ah.out];exact bb.out.kept (bj db (.inr rfl))
    case measure=>simp [intOf];omega
   rw [hd] at ac ah
   rw [if_pos rfl] at ah;replace ac:=hid ac;replace ah:=hid ah;replace hd:=hid hd;replace ad:=hid ad;replace ai:=hid ai;replace ae:=hid ae;go_wp2_with fail
   refine(ac.out _ a8.out).mono ?_;rintro e w1⟨rfl,a3⟩;have ab:Below wr.heap.size wr w1:=ze (zi (N2 _ _) _) a3;go_wp2
   go_roundw
   case rel=>exact⟨k+1,acc,by omega,by go_num,by omega,ad.out.below ab,ag.out,aj.thenCall ab,by rw [ah.out];exact an,by rw [ah.out];exact ai.out.kept (ab.block _ ai.out.lt),by rw [ah.out];exact ae.out.kept (ab.block _ ae.out.lt)⟩
   case measure=>simp [intOf];omega
  obtain rfl:k=l.length:=by omega
  rw [List.take_length] at an ai ae;replace ai:=hid ai;replace ae:=hid ae;obtain⟨ra,rn,rc,rfl⟩:=ad.shape;go_wp2;go_ret2
  exact⟨_,rfl,⟨aj.mono (λk _ e=>by rcases e with e|e;subst e;rw [o2];exact Sub.rfl' t;subst e;rw [o3];exact Sub.rfl' t),λ_ _=>rfl⟩,an,wb,db,bc,ai.out,ae.out,a6,o1,o2,o3⟩
end Go.Proofs.YtofppfoioodblaaGreatDoor
namespace Go.Proofs
open Go.Shelf
def Tryz.sortPend_ren:Go.Shelf.Ren:=⟨λ|6=>296|15=>331|14=>330|28=>352|29=>324|20=>344|21=>345|22=>346|23=>347|24=>348|25=>349|26=>350|27=>351|46=>356|47=>357|48=>358|49=>359|50=>360|57=>364|n=>n,λ|22=>436|24=>294|25=>438|3=>3|39=>33|0=>0|53=>35|55=>52|4=>4|46=>489|45=>488|50=>380|5=>5|9=>9|66=>499|70=>503|76=>508|77=>509|n=>n,λ|n=>n⟩
theorem Tryz.sortPend:Go.Proofs.SlLaysF0.n6 Tryz.prog Tryz.sortPend_ren:={
 mixed:=by kernel_rfl
 f6:=⟨Tryz.f296.name,by decide,Tryz.func296.trans (congrArg some (by kernel_rfl))⟩
 f14:=⟨Tryz.f330.name,by decide,Tryz.func330.trans (congrArg some (by kernel_rfl))⟩
 f15:=Tryz.func331.trans (congrArg some (by kernel_rfl))
 f20:=⟨Tryz.f344.name,by decide,Tryz.func344.trans (congrArg some (by kernel_rfl))⟩
 f21:=⟨Tryz.f345.name,by decide,Tryz.func345.trans (congrArg some (by kernel_rfl))⟩
 f22:=⟨Tryz.f346.name,by decide,Tryz.func346.trans (congrArg some (by kernel_rfl))⟩
 f23:=⟨Tryz.f347.name,by decide,Tryz.func347.trans (congrArg some (by kernel_rfl))⟩
 f24:=⟨Tryz.f348.name,by decide,Tryz.func348.trans (congrArg some (by kernel_rfl))⟩
 f25:=⟨Tryz.f349.name,by decide,Tryz.func349.trans (congrArg some (by kernel_rfl))⟩
 f26:=⟨Tryz.f350.name,by decide,Tryz.func350.trans (congrArg some (by kernel_rfl))⟩
 f27:=⟨Tryz.f351.name,by decide,Tryz.func351.trans (congrArg some (by kernel_rfl))⟩
 f28:=Tryz.func352.trans (congrArg some (by kernel_rfl))
 f29:=Tryz.func324.trans (congrArg some (by kernel_rfl))
 f46:=⟨Tryz.f356.name,by decide,Tryz.func356.trans (congrArg some (by kernel_rfl))⟩
 f47:=Tryz.func357.trans (congrArg some (by kernel_rfl))
 f48:=Tryz.func358.trans (congrArg some (by kernel_rfl))
 f49:=⟨Tryz.f359.name,by decide,Tryz.func359.trans (congrArg some (by kernel_rfl))⟩
 f50:=⟨Tryz.f360.name,by decide,Tryz.func360.trans (congrArg some (by kernel_rfl))⟩
 f57:=⟨Tryz.f364.name,by decide,Tryz.func364.trans (congrArg some (by kernel_rfl))⟩
 t0:=Tryz.underlying0
 a0:=Tryz.isAgg0
 z0:=Tryz.sizeOf0
 v0:=Tryz.zeroValue0
 t3:=Tryz.underlying3
 a3:=Tryz.isAgg3
 z3:=Tryz.sizeOf3
 v3:=Tryz.zeroValue3
 t4:=Tryz.underlying4
 a4:=Tryz.isAgg4
 z4:=Tryz.sizeOf4
 v4:=Tryz.zeroValue4
 t5:=Tryz.underlying5
 a5:=Tryz.isAgg5
 z5:=Tryz.sizeOf5
 v5:=Tryz.zeroValue5
 t9:=Tryz.underlying9
 a9:=Tryz.isAgg9
 z9:=Tryz.sizeOf9
 v9:=Tryz.zeroValue9
 t22:=Tryz.underlying436
 a22:=Tryz.isAgg436
 z22:=Tryz.sizeOf436
 v22:=Tryz.zeroValue436
 t25:=Tryz.underlying438
 a25:=Tryz.isAgg438
 z25:=Tryz.sizeOf438
 v25:=Tryz.zeroValue438
 t39:=Tryz.underlying33
 a39:=Tryz.isAgg33
 z39:=Tryz.sizeOf33
 v39:=Tryz.zeroValue33
 t45:=Tryz.underlying488
 a45:=Tryz.isAgg488
 z45:=Tryz.sizeOf488
 v45:=Tryz.zeroValue488
 t46:=Tryz.underlying489
 a46:=Tryz.isAgg489
 z46:=Tryz.sizeOf489
 v46:=Tryz.zeroValue489
 t50:=Tryz.underlying380
 a50:=Tryz.isAgg380
 z50:=Tryz.sizeOf380
 v50:=Tryz.zeroValue380
 t53:=Tryz.underlying35
 a53:=Tryz.isAgg35
 z53:=Tryz.sizeOf35
 v53:=Tryz.zeroValue35
 t55:=Tryz.underlying52
 a55:=Tryz.isAgg52
 z55:=Tryz.sizeOf52
 v55:=Tryz.zeroValue52
 t66:=Tryz.underlying499
 a66:=Tryz.isAgg499
 z66:=Tryz.sizeOf499
 v66:=Tryz.zeroValue499
 t70:=Tryz.underlying503
 a70:=Tryz.isAgg503
 z70:=Tryz.sizeOf503
 v70:=Tryz.zeroValue503
 t76:=Tryz.underlying508
 a76:=Tryz.isAgg508
 z76:=Tryz.sizeOf508
 v76:=Tryz.zeroValue508
 t77:=Tryz.underlying509
 a77:=Tryz.isAgg509
 z77:=Tryz.sizeOf509
 v77:=Tryz.zeroValue509}
end Go.Proofs
namespace Go.Proofs.YtofppfoioodblaaGreatDoor
open Go Go.RowKit Go.Shelf Go.Extern.Stop Go.Stop Go.Extern Go.Lib Go.Sort
attribute [local go_sem] Oper.semAt_some zB zo
theorem zgu(x:Nat)(w:World):Calls Tryz.prog 354 #[.int .u32 x] w λe w'=>e=.returned (.bool false)/\w'=w:=by
 have t0:((x:Int) !=(x:Int))=false:=by simp
 go_enter Tryz.func354,Tryz.ntmps354
 go_wp2;go_ret
 exact⟨rfl,rfl⟩
theorem zkm(x y:Nat)(w:World):Calls Tryz.prog 334 #[.int .u32 x,.int .u32 y] w λe w'=>e=.returned (.int .i64 (Lib.compareInt x y))/\w'=w:=by
 unfold Lib.compareInt;have hn:=λz=>zgu z w
 replace hn:=hid hn
 by_cases h1:(x:Int)<y
 ·rw [if_pos h1]
  have t1:decide (x<y)=true:=by simpa using h1
  replace h1:=hid h1
  go_enter Tryz.func334,Tryz.ntmps334
  go_wp2_with (go_at_call 354;refine(hn.out _).mono ?_;rintro e w1 ⟨rfl,aa⟩;obtain rfl:=aa.symm)
  go_ret
  exact⟨rfl,rfl⟩
 rw [if_neg h1]
 have t1:decide (x<y)=false:=by simpa using h1
 replace h1:=hid h1
 by_cases h2:(y:Int)<x
 rw [if_pos h2];have t2:decide (y<x)=true:=by simpa using h2
 replace h2:=hid h2
 rotate_left
 rw [if_neg h2];have t2:decide (y<x)=false:=by simpa using h2
 replace h2:=hid h2
 all_goals
  go_enter Tryz.func334,Tryz.ntmps334
  go_wp2_with (go_at_call 354;refine(hn.out _).mono ?_;rintro e w1 ⟨rfl,aa⟩;obtain rfl:=aa.symm)
  go_ret
  exact⟨rfl,rfl⟩
theorem zlD(b:Nat)(x y:Int)(w:World)(h0:w.cell? ⟨b,0,none⟩=some (.int .i64 x))(h1:w.cell? ⟨b,1,none⟩=some (.int .i64 y)):
 Calls Tryz.prog 332 #[.slice (some ⟨b,0,none⟩) 2 2] w λe w'=>e=.returned (.int .i64 (if x≠0 then x else y))/\w'=w:=by
 go_enter Tryz.func332,Tryz.ntmps332
 go_wp2
 go_loop [8] (λp8=>∃k:Nat,k<=2/\p8=.int .i64 k/\(1<=k->x=0)/\(2<=k->y=0)) (λp8=>2 - (intOf p8).toNat)
 case atStart=>exact⟨0,by omega,rfl,by simp,by simp⟩
 case round=>
  obtain⟨k,hk,rfl,hx,hy⟩:=hrel
  rcases(by omega:k=0∨k=1∨k=2)with rfl|rfl|rfl
  ·by_cases aa:x=0
   ·have t0:(x !=0)=false:=by simp [aa]
    replace aa:=hid aa;go_wp2
    go_round
    case rel=>exact⟨1,by omega,by go_num,λ_=>aa.out,by omega⟩
    case measure=>simp [intOf]
   have t0:(x !=0)=true:=by simpa using aa
   have hv:(if x≠0 then x else y)=x:=if_pos aa;replace aa:=hid aa;replace hv:=hid hv;go_wp2;go_ret
   first|exact⟨rfl,rfl⟩|exact⟨by rw [hv.out],rfl⟩
  ·have aa:x=0:=hx (by omega)
   have hv:(if x≠0 then x else y)=y:=if_neg (by simp [aa]);replace aa:=hid aa
   by_cases ab:y=0
   ·have t0:(y !=0)=false:=by simp [ab]
    replace ab:=hid ab;replace hv:=hid hv;go_wp2
    go_round
    case rel=>exact⟨2,by omega,by go_num,λ_=>aa.out,λ_=>ab.out⟩
    case measure=>simp [intOf]
   have t0:(y !=0)=true:=by simpa using ab
   replace ab:=hid ab;replace hv:=hid hv;go_wp2;go_ret
   first|exact⟨rfl,rfl⟩|exact⟨by rw [hv.out],rfl⟩
  have aa:x=0:=hx (by omega)
  have ab:y=0:=hy (by omega);have hv:(if x≠0 then x else y)=0:=by rw [if_neg (by simp [aa]),ab]
  replace aa:=hid aa;replace ab:=hid ab;replace hv:=hid hv;go_wp2;go_ret
  first|exact⟨rfl,rfl⟩|exact⟨by rw [hv.out],rfl⟩
def zk3(a b:zx):Int:=if Lib.compareInt a.1.1 b.1.1≠0 then Lib.compareInt a.1.1 b.1.1 else Lib.compareInt (a.1.2:Nat) (b.1.2:Nat)
theorem zej(x y:zx)(w:World):Calls Tryz.prog 297 #[.agg (zh x).toArray,.agg (zh y).toArray] w λe w'=>e=.returned (.int .i64 (zk3 x y))/\∃q os',w'=grow (w.drewN q) os':=by
 obtain⟨⟨xi,xc⟩,xd⟩:=x;obtain⟨⟨yi,yc⟩,yd⟩:=y;unfold zh zk3;simp only;have ab:=λW=>Tryz.cmp_Compare_int xi yi W
 have ad:=λW=>zkm xc yc W
 generalize Lib.compareInt xi yi=r1 at*
 generalize Lib.compareInt (xc:Int) (yc:Int)=r2 at*
 have ac:=λb W h0 h1=>zlD b r1 r2 W h0 h1
 generalize(if r1≠0 then r1 else r2)=r at*
 replace ab:=hid ab;replace ad:=hid ad;replace ac:=hid ac;obtain⟨W1,aa⟩:∃W1,W1=(w.alloc (.cells #[.int .i64 xi,.int .u32 xc,.string (bs xd)] 294)).alloc (.cells #[.int .i64 yi,.int .u32 yc,.string (bs yd)] 294):=⟨_,rfl⟩;have kx:Blk W1 w.heap.size #[.int .i64 xi,.int .u32 xc,.string (bs xd)] 294:=by rw [aa];exact(Blk.new rfl).alloc _
 have ky:Blk W1 (w.heap.size+1) #[.int .i64 yi,.int .u32 yc,.string (bs yd)] 294:=by rw [aa];exact Blk.new (by simp)
 replace aa:=hid aa
 go_enter Tryz.func297,Tryz.ntmps297
 go_wp2_with fail
 rw [← aa.out];refine zd [O 0,O 1,O 2,O 3,O 4,O 5,O 6,O 7,O 9,O 10,O 11,O 12,O 13,O 14,O 15,O 16,E 8,E 17,E 18,E 19,O 20] none (λw'=>Blk w' w.heap.size #[.int .i64 xi,.int .u32 xc,.string (bs xd)] 294/\Blk w' (w.heap.size+1) #[.int .i64 yi,.int .u32 yc,.string (bs yd)] 294/\True) (by kernel_rfl) (by kernel_rfl) ⟨kx.drew,ky.drew,trivial⟩ ?_
 refine Wb ?_
 refine zc rfl (λK hK=>?_);go_wp2_with fail
 refine(ab.out _).mono ?_;rintro e w2⟨rfl,af⟩;obtain rfl:=af.symm;go_wp2;refine hK.out _ _ (λ_=>⟨kx.drew,ky.drew,trivial⟩) ?_;clear hK K;refine zc rfl (λK hK=>?_);go_wp2_with fail
 refine(ad.out _).mono ?_;rintro e w3⟨rfl,ae⟩;obtain rfl:=ae.symm;go_wp2;refine hK.out _ _ (λ_=>⟨kx.drew,ky.drew,trivial⟩) ?_;clear hK K;refine zc rfl (λK hK=>?_);go_wp2;refine hK.out _ _ (λ_=>⟨kx.drew.alloc _,ky.drew.alloc _,trivial⟩) ?_;clear hK K;refine zc rfl (λK hK=>?_);go_wp2_with fail
 refine(ac.out _ _ (by simp) (by simp)).mono ?_;rintro e w4⟨rfl,ag⟩;obtain rfl:=ag.symm;go_wp2;refine hK.out _ _ (λ_=>⟨kx.drew.alloc _,ky.drew.alloc _,trivial⟩) ?_;clear hK K
 refine Wb ?_
 refine zg ?_;go_wp2;go_ret
 refine⟨rfl,1,#[.cells #[.int .i64 xi,.int .u32 xc,.string (bs xd)] 294,.cells #[.int .i64 yi,.int .u32 yc,.string (bs yd)] 294,.cells #[.int .i64 r1,.int .i64 r2] 3],?_⟩;rw [aa.out,alloc_eq_grow,alloc_eq_grow,alloc_eq_grow,grow_grow,grow_grow];rfl
theorem zlE(blk off size:Nat)(w:World):CmpLays Tryz.prog 297 #[] zh 3 zk3 blk off size w:=
 λ_ _ _ _ x y=>zej x y _
theorem zbi(x y:zx):ltOf zk3 x y=(decide (x.1.1<y.1.1)||(decide (x.1.1=y.1.1)&& decide (x.1.2<y.1.2))):=by
 obtain⟨⟨xi,xc⟩,xd⟩:=x;obtain⟨⟨yi,yc⟩,yd⟩:=y;unfold ltOf zk3 Lib.compareInt;simp only
 by_cases h1:xi<yi
 ·simp [h1]
 by_cases h2:yi<xi
 ·have:¬xi=yi:=by omega
  simp [h1,h2,this]
 have h3:xi=yi:=by omega
 subst h3
 by_cases h4:(xc:Int)<yc
 ·have:xc<yc:=by omega
  simp [h4,this]
 by_cases h5:(yc:Int)<xc
 ·have:¬xc<yc:=by omega
  simp [h4,h5,this]
 have:¬xc<yc:=by omega
 simp [h4,h5,this]
theorem znd:SWO (ltOf zk3) where
 irrefl x:=by rw [zbi];simp
 trans x y z h1 h2:=by
  rw [zbi] at*;simp only [Bool.or_eq_true,Bool.and_eq_true,decide_eq_true_eq] at*;omega
 ntrans x y z h1 h2:=by
  rw [zbi] at*;simp only [Bool.or_eq_false_iff,Bool.and_eq_false_iff,decide_eq_false_iff_not] at*;omega
theorem zgv {a b:zx}(h:ltOf zk3 b a=false):ltM a b=true:=by
 rw [zbi] at h;simp only [Bool.or_eq_false_iff,Bool.and_eq_false_iff,decide_eq_false_iff_not] at h;unfold ltM;simp only [Bool.or_eq_true,Bool.and_eq_true,decide_eq_true_eq];omega
theorem zcL {a b:zx}(h:ltM a b=true)(k:ltM b a=true):a.1=b.1:=by
 unfold ltM at h k;simp only [Bool.or_eq_true,Bool.and_eq_true,decide_eq_true_eq] at h k
 apply Prod.ext<;>omega
theorem ziw(a b:zx)(h:ltM a b=false):ltM b a=true:=by
 unfold ltM at*;simp only [Bool.or_eq_false_iff,Bool.and_eq_false_iff,decide_eq_false_iff_not,Bool.or_eq_true,Bool.and_eq_true,decide_eq_true_eq] at*;omega
theorem zix {a b c:zx}(h:ltM a b=true)(k:ltM b c=true):ltM a c=true:=by
 unfold ltM at*;simp only [Bool.or_eq_true,Bool.and_eq_true,decide_eq_true_eq] at*;omega
theorem XR(m:zx):∀l,(zj6 m l).Perm (m::l)
 | []=>List.Perm.refl _
 |x::l=>by
  unfold zj6
  split
  ·exact List.Perm.refl _
  exact((XR m l).cons x).trans (List.Perm.swap m x l)
theorem vN:∀l,(Zk l).Perm l
 | []=>List.Perm.refl _
 |x::l=>(XR x (Zk l)).trans ((vN l).cons x)
theorem XS(m:zx):∀l:List zx,l.Pairwise (λa b=>ltM a b=true)->(zj6 m l).Pairwise (λa b=>ltM a b=true)
 | [],_=>by simp [zj6]
 |x::l,h=>by
  unfold zj6
  split
  ·rename_i hx
   refine List.pairwise_cons.2 ⟨λy hy=>?_,h⟩
   rcases List.mem_cons.1 hy with rfl|hy
   ·exact hx
   exact zix hx ((List.pairwise_cons.1 h).1 y hy)
  rename_i hx
  have hx':ltM x m=true:=ziw m x (by simpa using hx);refine List.pairwise_cons.2 ⟨λy hy=>?_,XS m l (List.pairwise_cons.1 h).2⟩
  rcases List.mem_cons.1 ((XR m l).mem_iff.1 hy)with rfl|hy
  ·exact hx'
  exact(List.pairwise_cons.1 h).1 y hy
theorem qC:∀l:List zx,(Zk l).Pairwise (λa b=>ltM a b=true)
 | []=>List.Pairwise.nil
 |x::l=>XS x _ (qC l)
theorem Zq:∀(a b:List zx),a.Perm b->a.Pairwise (λa b=>ltM a b=true)->b.Pairwise (λa b=>ltM a b=true)->(a.map (·.1)).Nodup->a=b
 | [],b,h,_,_,_=>(List.nil_perm.1 h).symm ▸ rfl
 |x::a,[],h,_,_,_=>by cases List.perm_nil.1 h
 |x::a,y::b,h,ha,hb,hn=>by
  have hxb:x∈y::b:=h.mem_iff.1 (List.mem_cons_self ..);have hya:y∈x::a:=h.mem_iff.2 (List.mem_cons_self ..)
  have hxy:x=y:=by
   rcases List.mem_cons.1 hya with e|hy
   ·exact e.symm
   rcases List.mem_cons.1 hxb with e|hx
   ·exact e
   have h1:=(List.pairwise_cons.1 ha).1 y hy
   have h2:=(List.pairwise_cons.1 hb).1 x hx;have h3:=zcL h1 h2;have h4:=(List.nodup_cons.1 hn).1;exact absurd (List.mem_map.2 ⟨y,hy,h3.symm⟩) h4
  subst hxy;rw [Zq a b ((List.perm_cons x).1 h) (List.pairwise_cons.1 ha).2 (List.pairwise_cons.1 hb).2 (List.nodup_cons.1 hn).2]
theorem zai(l:List zx):flatK zh 3 l.toArray=(l.flatMap zh).toArray:=by
 have aa:(l.flatMap zh).length=l.length*3:=by
  induction l with
  |nil=>rfl
  |cons x l ih=>rw [List.flatMap_cons,N1,ih,List.length_cons];simp [zh];omega
 apply Array.ext
 ·simp [aa]
 intro t h1 h2
 have ht:t<l.length*3:=by simpa using h1
 have hk:t / 3<l.length:=by omega
 have hx:l[t / 3]?=some l[t / 3]:=N3 hk;have hf:=Jf l (t / 3) _ hx (t % 3) (Nat.mod_lt _ (by omega));rw [show t / 3*3+t % 3=t by omega] at hf
 have h3:(l.flatMap zh)[t]?=some ((l.flatMap zh).toArray[t]):=by
  rw [N3 (by rw [aa];exact ht)];simp
 have ab:=get_flatK zh 3 l.toArray t (by simpa using ht);rw [getElem!_pos _ t h1] at ab;rw [ab];rw [h3] at hf;have h4:l.toArray[t / 3]! =l[t / 3]:=by rw [getElem!_pos _ _ (by simpa using hk)];simp
 rw [h4];have ac:t % 3<(zh l[t / 3]).length:=by simp [zh];omega
 rw [N3 ac] at hf;rw [getElem!_pos (zh l[t / 3]) (t % 3) ac];exact(Option.some.inj hf).symm
theorem zmS:Yf Tryz.prog 436 294 3 32 (.agg #[.int .i64 0,.int .u32 0,.string ⟨#[]⟩]):=⟨Tryz.underlying436,by kernel_rfl,rfl,by decide,by decide⟩
theorem zgw {W:World}{g n:Nat}{cur:Array Value}{e:TypeId}(hg:W.heap[g]?=some (.cells cur e (0,0)))(hs:n*3<=cur.size)(l:List zx)(hl:l.length=n)(m:Nat)(os:Array Obj):
 Mod (λk=>k=g) W (sortWorldK zh 3 W g 0 m l.toArray os)/\∃cur',(sortWorldK zh 3 W g 0 m l.toArray os).heap[g]?=some (.cells cur' e (0,0))/\cur'.size=cur.size/\cur'.toList.take (n*3)=l.flatMap zh:=by
 have ab:(l.flatMap zh).length=n*3:=by
  rw [← hl];clear hl hs
  induction l with
  |nil=>rfl
  |cons x l ih=>rw [List.flatMap_cons,N1,ih,List.length_cons];simp [zh];omega
 have ad:g<W.heap.size:=(N5.1 hg).1
 have aa:(sortWorldK zh 3 W g 0 m l.toArray os).heap=(W.heap.modify g (onCells (putCells id 0 (l.flatMap zh).toArray)))++os:=by
  rw [← zai];rfl
 refine⟨⟨rfl,rfl,rfl,by rw [aa];simp,λk hk hn=>?_⟩,putCells id 0 (l.flatMap zh).toArray cur,?_,by simp [putCells],?_⟩
 ·rw [aa,Array.getElem?_append_left (by simpa using hk),Array.getElem?_modify,if_neg (λe=>hn e.symm)]
 ·rw [aa,Array.getElem?_append_left (by simpa using ad),Array.getElem?_modify,if_pos rfl,hg];rfl
 apply List.ext_getElem?
 intro k;rw [List.getElem?_take]
 by_cases hk:k<n*3
 ·rw [if_pos hk]
  have ae:k<cur.size:=by omega
  have ac:k<(l.flatMap zh).length:=by omega
  unfold putCells;rw [Array.getElem?_toList,Array.getElem?_mapIdx,Array.getElem?_eq_getElem ae,Option.map_some,if_pos (by rw [List.size_toArray,ab];omega)];rw [Nat.sub_zero,getElem!_pos (l.flatMap zh).toArray k (by simpa using ac),N3 ac];simp
 rw [if_neg hk,List.getElem?_eq_none (by omega)]
def zkn(g cap:Nat)(l:List zx)(W:World)(e:Ending)(W':World):Prop:=
 e=.returned (.tuple #[])/\Mod (λk=>k=g) W W'/\Row W' 294 3 (.slice (some ⟨g,0,none⟩) l.length cap) l.length ((Zk l).flatMap zh)
theorem zko(g cap:Nat)(l:List zx)(hn:(l.map (·.1)).Nodup)(hl:l.length<=1073741824)(W:World)(h:Row W 294 3 (.slice (some ⟨g,0,none⟩) l.length cap) l.length (l.flatMap zh)):
 Calls Tryz.prog 296 #[.slice (some ⟨g,0,none⟩) l.length cap,.func (.func 297) #[] #[]] W (zkn g cap l W):=by
 rcases h.2 with⟨h0, -⟩|⟨g',cap',cur,h0, -,hg,hc,hm,hs,ht⟩
 ·cases h0
 cases h0
 have eg:∀args w,(callFunc 297 args).run Tryz.prog w=.ok (.enter 297 args) w:=enters_of Tryz.func297 (by kernel_rfl) rfl;have af:(l.flatMap zh).length=l.length*3:=h.1
 have hH:HoldsK zh 3 W g 0 l.toArray:=by
  unfold HoldsK;rw [zai];intro j hj;have aj:j<(l.flatMap zh).length:=by simpa using hj
  have hB:Blk W g cur 294:=hg;refine⟨?_,by rw [hB.frozen]⟩;rw [hB.cell,Nat.zero_add];have h1:(l.flatMap zh)[j]?=cur[j]?:=by rw [← ht,List.getElem?_take,if_pos (by omega)];simp
  rw [← h1,N3 aj,getElem!_pos (l.flatMap zh).toArray j hj];simp
 have ac:=AnyQ.slices_SortFunc Tryz.sortPend 3 Tryz.isAgg294 Tryz.sizeOf294 zh (λ_=>rfl) (λx v hv=>by simp [zh] at hv;rcases hv with rfl|rfl|rfl<;>rfl) zk3 znd 297 #[] g 0 cap l.toArray W eg (zlE g 0 l.toArray.size W) hH (N5.1 hg).1 (by simp;omega)
 change Calls Tryz.prog 296 _ _ _ at ac
 refine ac.mono ?_;rintro e W'⟨rfl,d',n,os,hp,al,rfl⟩;obtain⟨l',rfl⟩:∃l':List zx,d'=l'.toArray:=⟨d'.toList,by simp⟩;have ah:l'.length=l.length:=by simpa using hp.1
 have ab:l'.Perm l:=by
  have h3:(l'.take l.length).Perm l:=by simpa [ah] using hp.2.2
  rwa [List.take_of_length_le (by omega)] at h3
 have aa:l'.Pairwise (λa b=>ltM a b=true):=by
  rw [List.pairwise_iff_getElem];intro i j hi hj hij;have h4:=al i j (Nat.zero_le _) hij (by simp;omega);rw [getElem!_pos l'.toArray j (by simpa using hj),getElem!_pos l'.toArray i (by simpa using hi)] at h4;exact zgv (by simpa using h4)
 have ai:l'=Zk l:=Zq l' (Zk l) (ab.trans (vN l).symm) aa (qC l) ((ab.map (·.1)).nodup_iff.2 hn);obtain⟨ad,ag,ae,am,ak⟩:=zgw hg (by omega) l' ah n os;refine⟨rfl,ad,?_,.inr ⟨g,cap,ag,rfl,Nat.zero_le _,ae,hc,hm,by omega,?_⟩⟩
 ·rw [← af];exact((vN l).flatMap_right zh).length_eq
 rw [ak,ai]
end Go.Proofs.YtofppfoioodblaaGreatDoor
namespace Go.Proofs.YtofppfoioodblaaGreatDoor
open Go Go.RowKit Go.Shelf Go.Extern.Stop Go.Stop Go.Extern Go.Lib
attribute [local go_sem] Oper.semAt_some zB zo
theorem QE(cf:Value)(w:World):Calls Tryz.prog 344 #[.slice none 0 0,.int .i64 0,.int .i64 0,cf] w λe w'=>e=.returned (.tuple #[])/\w'=w:=by
 go_enter Tryz.func344,Tryz.ntmps344
 go_wp2
 go_loop [8] (λp8=>p8=.int .i64 1) (λ_=>0)
 case atStart=>rfl
 case round=>
  subst hrel;go_wp2;go_end0
  exact⟨rfl,rfl⟩
theorem zkp(cf:Value)(n:Int)(w:World):Calls Tryz.prog 330 #[.slice none 0 0,.int .i64 0,.int .i64 0,.int .i64 n,cf] w λe w'=>e=.returned (.tuple #[])/\w'=w:=by
 go_enter Tryz.func330,Tryz.ntmps330
 go_wp2
 go_loop [1,2] (λp1 p2=>p1=.int .i64 0/\p2=.int .i64 0) (λ_ _=>0)
 case atStart=>exact⟨rfl,rfl⟩
 case round=>
  obtain⟨rfl,rfl⟩:=hrel;go_wp2_with fail
  refine(QE _ _).mono ?_;rintro e w1⟨rfl,aa⟩;obtain rfl:=aa.symm;go_wp2;refine bodyPost_ret (results_none rfl _ _ _) rfl ?_;exact⟨rfl,rfl⟩
theorem ziy(cf:Value)(w:World):Calls Tryz.prog 296 #[.slice none 0 0,cf] w λe w'=>e=.returned (.tuple #[])/\w'=w:=by
 have hb:=λW=>Tryz.bits_Len 0 W (by omega) (by omega)
 replace hb:=hid hb
 go_enter Tryz.func296,Tryz.ntmps296
 go_wp2_with fail
 refine(hb.out _).mono ?_;rintro e w1⟨rfl,aa⟩;obtain rfl:=aa.symm;go_wp2_with fail
 refine(zkp _ _ _).mono ?_;rintro e w2⟨rfl,ab⟩;obtain rfl:=ab.symm;go_wp2;go_end0
 exact⟨rfl,rfl⟩
def xg(L:List (MapEntry×zx))(seen:Array Nat):List zx:=(L.filter λq=> !seen.contains q.1.born).map (·.2)
theorem zek(L:List (MapEntry×zx)):xg L #[]=L.map (·.2):=by
 unfold xg;rw [List.filter_eq_self.2];intro q _;simp
theorem Vh(q:MapEntry×zx)(L:List (MapEntry×zx))(seen:Array Nat)(h:seen.contains q.1.born=false):xg (q::L) seen=q.2::xg L seen:=by
 unfold xg;rw [List.filter_cons_of_pos (by rw [h];rfl)];rfl
theorem XT(q:MapEntry×zx)(L:List (MapEntry×zx))(seen:Array Nat)(h:seen.contains q.1.born=true):xg (q::L) seen=xg L seen:=by
 unfold xg;rw [List.filter_cons_of_neg (by rw [h];simp)]
theorem XU(e:MapEntry)(m:zx):∀(L:List (MapEntry×zx)) (seen:Array Nat),(L.map (·.1.born)).Nodup->(e,m)∈L->seen.contains e.born=false->(xg L seen).Perm (m::xg L (seen.push e.born))
 | [],seen,_,h,_=>by cases h
 |q::L,seen,hn,h,hs=>by
  have hn':=List.nodup_cons.1 hn
  rcases List.mem_cons.1 h with h|h
  ·subst h
   have hrest:xg L (seen.push e.born)=xg L seen:=by
    unfold xg
    congr 1
    apply List.filter_congr
    intro q hq;have aa:q.1.born≠e.born:=λe'=>hn'.1 (List.mem_map.2 ⟨q,hq,e'⟩)
    rw [contains_push];simp [aa]
   rw [Vh (e,m) L seen hs,XT (e,m) L (seen.push e.born) (by rw [contains_push];simp),hrest]
  have ih:=XU e m L seen hn'.2 h hs
  have aa:q.1.born≠e.born:=λe'=>hn'.1 (List.mem_map.2 ⟨(e,m),h,e'.symm⟩)
  cases hx:seen.contains q.1.born
  ·rw [Vh q L seen hx,Vh q L (seen.push e.born) (by rw [contains_push,hx];simp [aa])]
   exact(ih.cons q.2).trans (List.Perm.swap _ _ _)
  rw [XT q L seen hx,XT q L (seen.push e.born) (by rw [contains_push,hx];rfl)]
  exact ih
theorem zel(L:List (MapEntry×zx))(seen:Array Nat)(h:∀q∈L,seen.contains q.1.born=true):xg L seen=[]:=by
 unfold xg;rw [List.filter_eq_nil_iff.2]
 ·rfl
 intro q hq;rw [h q hq];simp
theorem zgx(B:Nat)(w:World):Calls Tryz.prog 239 #[.pointer (some ⟨B,0,none⟩)] w λe w'=>
 e=.returned (.func (.func 295) #[] #[.pointer (some ⟨w.heap.size,0,none⟩)])/\w'=w.alloc (.cells #[.pointer (some ⟨B,0,none⟩)] 96):=by
 go_enter Tryz.func239,Tryz.ntmps239
 go_wp2;go_ret
 exact⟨rfl,rfl⟩
theorem zkq {W:World}{l:List zx}{g n cap:Nat}(h:Row W 294 3 (.slice (some ⟨g,0,none⟩) n cap) n (l.flatMap zh))(hl:l.length=n){k:Nat}{x:zx}(hx:l[k]?=some x):
 W.cell? ⟨g,0+k*3,none⟩=some (.int .i64 x.1.1)/\W.cell? ⟨g,0+k*3+1,none⟩=some (.int .u32 x.1.2)/\W.cell? ⟨g,0+k*3+2,none⟩=some (.string (bs x.2)):=by
 have hs:=h.src;rw [← hl] at hs;exact Z3 hs hx
theorem zkr {es:List MapEntry}{ws:List (MId×zx)}(h:yU idV es (ws.map λq=>(q.1,vO q.2))):(es.zip (ws.map (·.2))).map (·.1)=es/\(es.zip (ws.map (·.2))).map (·.2)=ws.map (·.2)/\∀e∈es,∃m,(e,m)∈es.zip (ws.map (·.2))/\e.val=vO m:=by
 induction es generalizing ws with
 |nil=>
  have:ws=[]:=by cases ws with|nil=>rfl|cons x l=>simp [yU] at h
  subst this;exact⟨rfl,rfl,λe he=>by cases he⟩
 |cons e es ih=>
  cases ws with
  |nil=>simp [yU] at h
  |cons q ws=>
   obtain⟨⟨h1,h2⟩,h3⟩:=yU.cons.1 h;obtain⟨i1,i2,i3⟩:=ih h3;refine⟨by simp only [List.map_cons,List.zip_cons_cons];rw [i1],by simp only [List.map_cons,List.zip_cons_cons];rw [i2],λe' he'=>?_⟩
   rcases List.mem_cons.1 he' with rfl|he'
   ·exact⟨q.2,List.mem_cons_self ..,h2⟩
   obtain⟨m,hm,hv⟩:=i3 e' he'
   exact⟨m,U7 _ hm,hv⟩
theorem zgy {a b:List zx}(h:a.Perm b)(hn:(b.map (·.1)).Nodup):Zk a=Zk b:=
 Zq _ _ ((vN a).trans (h.trans (vN b).symm)) (qC a) (qC b) ((((vN a).trans h).map (·.1)).nodup_iff.2 hn)
theorem zem(cb B:Nat)(p:xn)(t:List Nat)(ow:Own)(hlen:p.waits.length<=1000000):
 zaF Fence.wide 2 Tryz.prog 295 #[.pointer (some ⟨cb,0,none⟩)] (λm:zx=> #[vO m])
  (λ(k:Nat) x=>(Zk (p.waits.map (·.2)))[k]?=some x) (λk _=>k+1) (λk=>k=p.waits.length)
  (λ_ W=>Blk W cb #[.pointer (some ⟨B,0,none⟩)] 96/\jY B p t ow W) 0:=by
 intro lp J Jx W hJ hJx hRd hY h0;obtain⟨r0,bi,wb,db,hB,hv, -⟩:=hRd _ _ _ h0;have b4:=hv.lt;obtain⟨es,ck,a6,ar,b6,bb⟩:=hv;have bl:(es.toList.map (·.born)).Nodup:=(List.pairwise_map.2 b6).imp (λh=>by omega);obtain⟨z1,z2,z3⟩:=zkr ar
 generalize hL:es.toList.zip (p.waits.map (·.2))=L at*
 have bu:(L.map (·.1.born)).Nodup:=by rw [show L.map (·.1.born)=(L.map (·.1)).map (·.born)by simp,z1];exact bl
 have ao:((p.waits.map (·.2)).map (·.1)).Nodup:=by
  have:(p.waits.map (·.2)).map (·.1)=p.waits.map (·.1):=by
   rw [List.map_map];exact List.map_congr_left (λq hq=>bi.1 q hq)
  rw [this];exact bi.2.1
 have af:(p.waits.map (·.2)).length=p.waits.length:=by simp
 generalize p.waits.map (·.2)=ws at*
 generalize p.waits.length=n at*
 have bp:=run_range_map (P:=Tryz.prog) W 228 76 294 wb es ck Tryz.underlying228 a6;unfold xB at hB;have e0:=r0.cell;have eB:=hB.cell;clear r0 hB;replace hL:=hid hL;replace af:=hid af;replace ao:=hid ao;replace z1:=hid z1;replace z2:=hid z2;replace z3:=hid z3;replace bb:=hid bb;replace a6:=hid a6;have hF:Fence.wide.fn 295:=trivial;have b8:Fence.wide.round=none:=rfl;refine callsIn_of_wp Tryz.func295 rfl hF ?_ b8;simp only [Tryz.ntmps295,R8,Nat.reduceAdd,Nat.reduceSub]
 gi_wp2
 clear bp e0 eB
 gi_loopw [3] (λp3 wr=>∃(acc:List zx)(aa:Array Nat),wr.heap[W.heap.size]?=some (.mapIter (some wb) ck aa ck)/\Below W.heap.size W wr/\(acc++xg L aa).Perm ws/\Row wr 294 3 p3 acc.length (acc.flatMap zh)/\(∀g,p3.ownBlock=some g->W.heap.size<g)) (λ_ wr=>(leftOf es (wr.iterSeen W.heap.size)).size)
 case atStart=>exact⟨[],#[],World.alloc_heap_new _ _,(N2 _ _).alloc (N0 _) _,by rw [zek,z2.out];exact List.Perm.refl _,jc _ _ _,by simp [Value.ownBlock]⟩
 case round=>
  obtain⟨acc,aa,a9,aw,ab,ad,ae⟩:=hrel;have hb:wr.heap[wb]?=some (.map es ck):=(aw.block wb b4).trans a6.out;have b1:=(N5.1 a9).1;have bq:=run_next_at (P:=Tryz.prog) wr 0 W.heap.size wb ck ck aa es ck a9 hb bb.out (N0 _)
  rcases bq with⟨h0',ac⟩|⟨e,he,w1,hw1,ac⟩
  ·have aq:∀ty,(Instr.next (.pointer (some ⟨W.heap.size,0,none⟩)) false ty).run Tryz.prog wr=_:=λ_=>ac
   clear ac;have bg:=all_seen es aa h0';have b3:xg L aa=[]:=zel L aa (λq hq=>bg q.1 (by rw [← z1.out];exact List.mem_map.2 ⟨q,hq,rfl⟩));rw [b3,List.append_nil] at ab;have ay:=zgy ab ao.out;have a7:acc.length=n:=ab.length_eq.trans af.out;have a5:(acc.map (·.1)).Nodup:=(ab.map (·.1)).nodup_iff.2 ao.out;have b2:(Zk acc).length=n:=(vN acc).length_eq.trans a7;rw [← ay] at hY;subst a7
   rcases ad.form with⟨rfl,ha0, -⟩|⟨g,cap,rfl,hc1,hc2⟩
   ·obtain rfl:acc=[]:=N9 ha0
    have ba:J 0 (λ_=>False) wr:=hJ _ _ _ _ _ h0 (Mod.of_below _ aw) (λk hk=>.inl hk);clear ad ae;replace aq:=hid aq;replace aq:=aq.out
    gi_wp2_with fail
    refine(callsIn_wide.2 (ziy _ _)).mono ?_;rintro e w2⟨rfl,b7⟩;obtain rfl:=b7.symm;clear aq
    gi_wp2
    gi_loopw [25] (λp25 ws=>p25=.int .i64 0/\ws=wr) (λ_ _=>0)
    case atStart=>exact⟨rfl,rfl⟩
    case round=>
     obtain⟨rfl,rfl⟩:=hrel
     gi_wp2
     go_end0
     exact⟨⟨_,rfl⟩,.inl ⟨0,_,rfl,ba⟩⟩
   have ag:=zko g cap acc a5 (by omega) wr ad
   have ca:=ae g rfl;have cc:=ad.lt (g:=g) rfl;replace ag:=hid ag;clear ad ae
   gi_wp2_with fail
   refine(callsIn_wide.2 ag.out).mono ?_;rintro e W1⟨rfl,a3,an⟩;have bc:Below W.heap.size W W1:=aw.trans (a3.to_below (by omega) (λk _ e=>by omega));have ba:J 0 (λk=>k=g) W1:=hJ _ _ _ _ _ h0 (Mod.of_below _ bc) (λk hk=>by subst hk;right;have:=a3.size;omega);clear aq ag;replace an:=hid an
   gi_wp2
   gi_loopw [25] (λp25 ws'=>∃(k:Nat)(X:Nat->Prop),p25=.int .i64 k/\k<=acc.length/\J k X ws'/\X g/\Row ws' 294 3 (.slice (some ⟨g,0,none⟩) acc.length cap) acc.length ((Zk acc).flatMap zh)) (λp25 _=>acc.length - (intOf p25).toNat)
   case atStart=>exact⟨0,_,rfl,Nat.zero_le _,ba,rfl,an.out⟩
   case round=>
    obtain⟨k,X,rfl,hk,bd,bn,hR⟩:=hrel
    by_cases hlk:k<acc.length
    ·obtain⟨x,hx⟩:∃x,(Zk acc)[k]?=some x:=⟨_,N3 (by omega)⟩
     obtain⟨c0,c1,c2⟩:=zkq hR b2 hx;have bh:=hY k x _ _ (hJ.alloc (.cells (zh x).toArray 294) bd) hx;have b9:=hR.lt (g:=g) rfl;obtain⟨⟨xi,xc⟩,xd⟩:=x;simp only [zh] at c0 c1 c2 bh;obtain⟨fn,tmps,assign,body,hy,bo⟩:=bh;unfold vO at hy;simp only [Nat.zero_add] at c0 c1 c2;replace hx:=hid hx;replace hR:=hid hR
     gi_wp2
     refine bo.mono ?_;rintro e W'(⟨rfl,bv,bw⟩|⟨rfl,bz⟩)
     ·clear c0 c1 c2 bo hy
      have b5:Row W' 294 3 (.slice (some ⟨g,0,none⟩) acc.length cap) acc.length ((Zk acc).flatMap zh):=hR.out.kept (λg' hg'=>by
       cases hg'
       exact(bw.2 g (.inl bn) (by simp;omega)).trans (U4 _ _ _ b9))
      gi_wp2
      go_roundw
      case rel=>exact⟨k+1,_,by go_num,by omega,bv,.inl bn,b5⟩
      case measure=>simp [intOf];omega
     gi_wp2
     refine bodyPost_ret (results_none rfl _ _ _) rfl ?_;exact⟨⟨_,rfl⟩,.inr ⟨_,bz⟩⟩
    obtain hkn:k=acc.length:=by omega
    replace hkn:=hid hkn;obtain rfl:=hkn.out;replace hR:=hid hR
    gi_wp2
    go_end0
    first|exact⟨⟨_,rfl⟩,.inl ⟨_,X,rfl,bd⟩⟩|exact⟨⟨_,rfl⟩,.inl ⟨X,bd⟩⟩
  obtain⟨bm,a8⟩:=mem_left he
  obtain⟨m,br,ap⟩:=z3.out e bm;have ah:=XU e m L aa bu br a8;have be:=left_shrinks es aa e he;obtain⟨W2,ax⟩:∃W2,W2=ChangeMaps.setBlock w1 W.heap.size (.mapIter (some wb) ck (aa.push e.born) ck):=⟨_,rfl⟩;have a2:Below wr.heap.size wr w1:=by rcases hw1 with rfl|rfl;exact N2 _ _;exact zm (N2 _ _)
  have a1:w1.heap.size=wr.heap.size:=by rcases hw1 with rfl|rfl<;>rfl
  have bf:Mod (λk=>k=W.heap.size) wr W2:=by rw [ax];exact(Mod.of_below (λk=>k=W.heap.size) a2).thenPut rfl _
  have az:W2.heap[W.heap.size]?=some (.mapIter (some wb) ck (aa.push e.born) ck):=by rw [ax];exact World.putObj_heap_same (w:=w1) (by omega)
  have a0:W2.heap.size=wr.heap.size:=by rw [ax];show(w1.heap.setIfInBounds _ _).size=_;simp [a1]
  rw [← ax,ap] at ac;clear ax a2 a1 hw1;have aq:∀ty,(Instr.next (.pointer (some ⟨W.heap.size,0,none⟩)) false ty).run Tryz.prog wr=_:=λ_=>ac
  clear ac;have bt:W2.heap[wb]?=some (.map es ck):=(bf.block wb (by have:=aw.size;omega) (by omega)).trans hb;have bk:=run_entry_at (P:=Tryz.prog) W2 W.heap.size wb ck aa es ck e az bt bm bl;rw [ap] at bk;have am:=ad.mod bf (λg hg e=>by have:=ae g hg;omega);have al:Below W.heap.size W W2:=aw.trans (bf.to_below aw.size (λk _ e=>by omega))
  have a7:acc.length+1<=n:=by
   have h5:=ab.length_eq;have h6:=ah.length_eq;rw [N1,h6,List.length_cons,af.out] at h5;omega
  have ak:((acc++ [m])++xg L (aa.push e.born)).Perm ws:=by
   refine List.Perm.trans ?_ ab;rw [List.append_assoc];exact(ah.symm).append_left acc
  have au:(leftOf es (aa.push e.born)).size<(leftOf es (wr.iterSeen W.heap.size)).size:=by
   have:wr.iterSeen W.heap.size=aa:=by unfold World.iterSeen;rw [a9]
   rw [this];exact be
  obtain⟨⟨mi,mc⟩,md⟩:=m;obtain⟨va,vn,vc,rfl⟩:=ad.shape;have b0:(W2.alloc (.cells #[.int .i64 mi,.int .u32 mc,.string (bs md)] 294)).heap.size=W2.heap.size+1:=by simp
  obtain⟨v',W4,ac,ai,bj,aj⟩:=zM zmS ((am.below ((N2 _ _).alloc (N0 _) (.cells #[.int .i64 mi,.int .u32 mc,.string (bs md)] 294))).below ((N2 _ _).alloc (N0 _) (.cells #[.int .i64 mi,.int .u32 mc,.string (bs md)] 294))) (jD (n:=1) (size:=3) (cap:=1) (Blk.new (w:=W2.alloc (.cells #[.int .i64 mi,.int .u32 mc,.string (bs md)] 294)) (cs:=#[.int .i64 mi,.int .u32 mc,.string (bs md)]) (t:=294) rfl) rfl (N0 1)) (jA [((mi,mc),md)]) (by omega) 436;rw [b0] at ac;obtain⟨sa,sm,sc,rfl⟩:=ai.shape;unfold vO at aq bk;replace ad:=hid ad;replace am:=hid am;replace ai:=hid ai;replace ae:=hid ae;replace aj:=hid aj;replace ak:=hid ak;replace ah:=hid ah;replace ab:=hid ab;replace au:=hid au;replace a0:=hid a0;replace ac:=hid ac;replace ap:=hid ap
  gi_wp2_with (gi_at_builtin
               refine jO rfl _ _ _ rfl rfl rfl ac.out ?_)
  have a4:W4.heap[W.heap.size]?=some (.mapIter (some wb) ck (aa.push e.born) ck):=
   (bj.block _ (by simp;have:=a0.out;omega) (λe=>by have:=ae.out _ e.symm;omega)).trans ((U4 _ _ _ (by simp;have:=a0.out;omega)).trans ((U4 _ _ _ (by have:=a0.out;omega)).trans az))
  go_roundw
  case rel=>
   refine⟨acc++ [((mi,mc),md)],aa.push e.born,a4,?_,ak.out,?_,λg hg=>?_⟩
   ·exact(((al.alloc al.size _).alloc (by simp;have:=al.size;omega) _)).grown bj (by simp;have:=al.size;omega) (λj hj=>by have:=ae.out j hj;omega)
   ·rw [N1,U2,U5];exact ai.out
   have h5:=aj.out
   rw [hg] at h5
   rcases h5 with h|h
   ·exact ae.out g h.symm
   simp at h;have:=al.size;omega
  case measure=>
   have:W4.iterSeen W.heap.size=aa.push e.born:=by unfold World.iterSeen;rw [a4]
   rw [this];exact au.out
end Go.Proofs.YtofppfoioodblaaGreatDoor
