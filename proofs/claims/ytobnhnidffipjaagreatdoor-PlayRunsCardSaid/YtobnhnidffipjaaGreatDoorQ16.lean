/- PARTS OF THE PROOF. -/
import Derived.Test.YtobnhnidffipjaaGreatDoorQ14
import Derived.Test.YtobnhnidffipjaaGreatDoorQ15
set_option maxRecDepth 8000
set_option maxHeartbeats 4000000
open Go.Proofs.Tryz
namespace Go.Proofs.YtobnhnidffipjaaGreatDoor
section
open Go
def vp(s:j1):Prop:=(s.log.length:Int)<=s.cap/\s.cap<=1048576/\0<=s.keep
theorem zgV {s:j1}(h:vp s)(d:List UInt8):vp (jg s d).1/\(jg s d).1.cap=s.cap:=by
 obtain⟨h1,h2,h3⟩:=h;unfold jg
 split
 ·exact⟨⟨h1,h2,h3⟩,rfl⟩
 ·split
  ·exact⟨⟨h1,h2,h3⟩,rfl⟩
  ·split
   ·exact⟨⟨h1,h2,h3⟩,rfl⟩
   ·rename_i hc
    split
    ·refine⟨⟨?_,h2,h3⟩,rfl⟩
     show(((s.log++(zZ d).1).length:Nat):Int)<=s.cap
     rw [N1];omega
    ·refine⟨⟨?_,h2,Int.le_refl _⟩,rfl⟩
     show(((s.log++(zZ d).1.take (min s.keep ((zZ d).1.length:Int)).toNat).length:Nat):Int)<=s.cap
     rw [N1,N7];omega
theorem zjH {s:j1}(h:vp s)(k:Int):vp (zct s k).1:=by
 obtain⟨h1,h2,h3⟩:=h;unfold zct
 split
 ·exact⟨h1,h2,h3⟩
 ·split
  ·exact⟨h1,h2,h3⟩
  ·exact⟨h1,h2,by show 0<=k;omega⟩
theorem zcJ {s:j1}(h:vp s):vp (jq s).1:=by
 obtain⟨h1,h2,h3⟩:=h;unfold jq;refine⟨?_,h2,Int.le_refl _⟩
 show((s.log.take (xp s.log.length s.log).2).length:Int)<=s.cap
 rw [N7];omega
theorem zbh {cap:Int}(h1:64<=cap)(h2:cap<=1048576):vp (qG cap):=⟨by simp [qG];omega,h2,Int.le_refl _⟩
theorem ZC {n:zv}(h:vp n.store)(b:Bool)(d:List UInt8):vp (yj n b d).1.store:=(zgV h d).1
theorem xt.cap {n m:zv}(hs:xt n m)(h:vp n.store):vp m.store:=by rw [hs.store];exact h
def zbi(s:StD)(n:zv):Prop:=(∃l,Q3 s n l)/\vp n.store
theorem yT:∀(k:Nat)(n:zv),xt n (jD k n).1
 |0,n=>xt.refl n
 |k+1,n=>by
  unfold jD
  cases zJ ((n.applied:Int)+1) n.pax.known with
  |none=>exact xt.refl n
  |some x=>
   simp only
   split
   ·have h:=yT k {n with applied:=n.applied+1}
    exact⟨h.id,h.version,h.bad,h.store,h.pax,h.acc,h.down⟩
   ·have h1:=(Yl {n with applied:=n.applied+1} (jC x).1).1
    have h:=yT k (xu {n with applied:=n.applied+1} (jC x).1).1;exact xt.trans ⟨h1.id,h1.version,h1.bad,h1.store,h1.pax,h1.acc,h1.down⟩ h
theorem Q4 {n:zv}(h:vp n.store)(d:List UInt8):vp (jc n d).1.store:=by
 unfold jc
 split
 ·exact h
 split
 ·exact h
 split
 ·exact ZC h _ _
 ·exact(vu _ _).1.cap (ZC (n:=n) h false ([109] ++(yA [((n.id,n.acc.length+1),d)]).1))
theorem zcK {n:zv}(h:vp n.store)(i:Int)(b:Nat):vp (j6 n i b).1.store:=by
 unfold j6
 split
 ·exact h
 split
 ·exact h
 split
 ·exact ZC (n:={n with pax:=(zB n.pax i b).1}) h _ _
 ·exact ZC (n:={n with pax:=(zB n.pax i b).1}) h _ _
theorem zd5 {n:zv}(h:vp n.store)(i:Int)(b:Nat)(x:List UInt8):vp (JE n i b x).1.store:=by
 unfold JE
 split
 ·exact h
 split
 ·exact h
 ·exact ZC (n:={n with pax:=(vH n.pax i b x).1}) h _ _
theorem VT {n:zv}(h:vp n.store)(i:Int)(x:List UInt8):vp (qr n i x).1.store:=by
 unfold qr
 split
 ·exact h
 ·simp only
  split
  ·exact h
  split
  ·exact(yT _ _).cap h
  have hk:=ZC (n:={n with pax:=(zV n.pax i x).1}) h true (zV n.pax i x).2.1
  split
  ·exact hk
  ·exact(yT _ _).cap hk
theorem zbj {s:StD}{n:zv}(h:vp n.store):vp (yN n s).store:=by
 unfold yN;simp only;rw [Q1];have hr:=zcJ h;exact(vu _ _).1.cap ((yT _ _).cap hr)
theorem zjI {s:StD}{n:zv}(h:zbi s n)(x:zkc)(hb:x.b<18446744073709551616):zbi s (zcI s n x):=by
 obtain⟨⟨l,hi⟩,hc⟩:=h;obtain⟨l',hs⟩:=zbg hi x hb;refine⟨⟨l',hs.inv⟩,?_⟩;unfold zcI
 split
 ·exact Q4 hc _
 split
 ·exact zcK hc _ _
 split
 ·exact zd5 hc _ _ _
 split
 ·exact VT hc _ _
 split
 ·unfold Z1;split
  ·exact hc
  ·split<;>exact hc
 split
 ·unfold zcu;split
  ·exact hc
  ·exact zjH hc _
 split
 ·unfold xN;split<;>exact hc
 split
 ·exact zbj hc
 split
 ·exact VT hc _ _
 ·exact hc
theorem zd6(l:List (List UInt8)):(RR l).1.length<=l.length:=by
 suffices h:∀(l:List (List UInt8)) (q:List zD×xl),(l.foldl jS q).1.length<=q.1.length+l.length by simpa [RR] using h l ([],qe)
 intro l
 induction l with
 |nil=>intro q;simp
 |cons r l ih=>
  intro q;have h1:=ih (jS q r)
  have h2:(jS q r).1.length<=q.1.length+1:=by
   unfold jS
   cases r with
   |nil=>simp
   |cons k d=>
    simp only
    split
    ·rename_i h;rw [N1,h.2.2];omega
    ·simp
  rw [List.foldl_cons,List.length_cons];omega
theorem zjJ(v:Int)(bad:List Int)(s:StD):∀(vals:List (List UInt8)),vQ (za6 v bad s vals) vals.length:=by
 suffices h:∀(vals:List (List UInt8)) (L:ja) (k:Nat),vQ L k->vQ (vals.foldl (qo bad) L) (k+vals.length)by
  intro vals;have:=h vals (zhT v s) 0 (zje v s)
  rwa [Nat.zero_add] at this
 intro vals
 induction vals with
 |nil=>intro L k h;exact h
 |cons x vals ih=>
  intro L k h
  have h1:vQ (qo bad L x) (k+1):=by
   unfold qo
   split
   ·exact h.mono (by omega)
   ·exact Q0 h _ _
  have:=ih _ _ h1;rw [List.foldl_cons,List.length_cons,show k+(vals.length+1)=k+1+vals.length by omega];exact this
theorem zgW {known:List (Int×List UInt8)}(hk:yk known){a:List (List UInt8)}(ha:∀(j:Nat)(x:List UInt8),a[j]?=some x->zJ ((j:Int)+1) known=some x):a.length<=10000:=by
 rcases Nat.lt_or_ge 10000 a.length with h|h
 ·exfalso
  obtain⟨x,hx⟩:∃x,a[10000]?=some x:=⟨_,N3 h⟩;have:=hk _ _ (ha _ _ hx);omega
 ·exact h
theorem zbi.bounds {s:StD}{n:zv}(h:zbi s n):n.store.log.length<=1048576/\n.acc.length<=116508/\n.applied<=10000/\vQ n.loc n.applied:=by
 obtain⟨⟨l,hi⟩,h1,h2,h3⟩:=h;obtain⟨hok,tail,hl, -, -⟩:=hi.kept;obtain⟨vals,hv⟩:=hi.loc;have hr:=zd2 hok;have ha:=zd6 l;have hp:=hi.acc.length_le;have hlen:(recs l).length<=n.store.log.length:=by rw [hl,N1];omega
 refine⟨by omega,by omega,?_,?_⟩
 ·rw [← hv.1];exact zgW (Q2 l) hv.2.2
 ·rw [hv.2.1,← hv.1];exact zjJ _ _ _ _
end
open Go Go.RowKit Go.Shelf Go.Extern.Stop Go.Stop Go.Extern
attribute [local go_sem] Oper.semAt_some zw zn
theorem zgX(B:Nat)(s:j1)(t:List Nat)(ow:Own)(w:World)(h:jl B s t ow w)(hl:s.log.length<=1073741824):
 Calls prog 147 #[.pointer (some ⟨B,0,none⟩)] w λe w'=>e=.returned (.int .i64 s.log.length)/\Below w.heap.size w w':=by
 obtain⟨lv,hB,hR,o1,o2⟩:=h;unfold xq at hB;obtain⟨ha,hc,rfl⟩:=hR.shape;have hwr:IntKind.i64.wrap (s.log.length:Int)=(s.log.length:Int):=by rw [N8];omega
 clear hR o1 o2
 go_enter func147,ntmps147
 go_wp2_with fail
 refine zd [O 0,O 1,O 2,O 3,O 4,O 5,O 6,O 7,O 8,O 9,O 10,O 11] none (λw'=>Blk w' B #[.slice ha s.log.length hc,.string ⟨#[]⟩,.int .i64 s.cap,.bool s.isCut,.int .i64 s.keep,.bool s.crashed] 134/\True) (by kernel_rfl) (by kernel_rfl) ⟨hB.drew,trivial⟩ ?_
 (repeat (refine za (v:=?_) rfl rfl (λw' h=>?_) (λK k=>?_);rotate_left;obtain⟨f1,_⟩:=h;have e1:=f1.cell;go_simp;(try with_reducible rfl);go_simp;refine k _ ?_;clear k K))
 refine ze ?_;go_wp2;go_ret
 exact⟨rfl,pbx⟩
theorem zgY(B:Nat)(s:j1)(t:List Nat)(ow:Own)(k:Int)(w:World)(h:jl B s t ow w):
 Calls prog 93 #[.pointer (some ⟨B,0,none⟩),.int .i64 k] w (Zh B (zct s k).1 t ow w (.int .i64 (zct s k).2)):=by
 obtain⟨lv,hB,hR,o1,o2⟩:=h;have hw:=λs' W'=>VI (s':=s') (W':=W') hR hB o1 o2
 have h0:jl B s t ow w:=⟨lv,hB,hR,o1,o2⟩;unfold xq at hB hw;have e0:=hB.cell;have f0:=hB.frozen;have l0:=hB.lt;obtain⟨log,cap,isc,keep,cr⟩:=s;clear hR o1 o2;replace hw:=G hw;replace hB:=G hB;replace h0:=G h0;simp only at e0
 cases cr
 ·by_cases hk:k<0
  ·have hc:zct ⟨log,cap,isc,keep,false⟩ k=(⟨log,cap,isc,keep,false⟩,2):=by unfold zct;rw [if_neg (by simp),if_pos hk]
   rw [hc];have t1:decide (k<0)=true:=by simpa using hk
   replace hc:=G hc
   go_enter func93,ntmps93
   go_wp2;go_ret
   exact⟨rfl,ow,zq.refl _ _ _,h0.out⟩
  ·have hc:zct ⟨log,cap,isc,keep,false⟩ k=(⟨log,cap,true,k,false⟩,0):=by unfold zct;rw [if_neg (by simp),if_neg hk]
   rw [hc];have t1:decide (k<0)=false:=by simpa using hk
   replace hc:=G hc
   go_enter func93,ntmps93
   go_wp2;go_ret
   have hq:=hw.out ⟨log,cap,true,k,false⟩ ((w.setCell ⟨B,3,none⟩ (.bool true)).setCell ⟨B,4,none⟩ (.int .i64 k)) (((Mod.refl (λk=>k=B) w).thenSet (p:=⟨B,3,none⟩) rfl _).thenSet (p:=⟨B,4,none⟩) rfl _) ((hB.out.set (o:=3) (.bool true)).set (o:=4) (.int .i64 k)) rfl;exact⟨rfl,ow,hq.1,hq.2⟩
 ·have hc:zct ⟨log,cap,isc,keep,true⟩ k=(⟨log,cap,isc,keep,true⟩,31):=by unfold zct;rw [if_pos rfl]
  rw [hc];replace hc:=G hc
  go_enter func93,ntmps93
  go_wp2;go_ret
  exact⟨rfl,ow,zq.refl _ _ _,h0.out⟩
theorem zcL(B:Nat)(s:j1)(t:List Nat)(ow:Own)(d:List UInt8)(w:World)(h:jl B s t ow w)(hc:vp s)(hd:d.length<=1073741000):
 Calls prog 146 #[.pointer (some ⟨B,0,none⟩),.string (bs d),.int .i64 s.log.length,.func (.func 148) #[.pointer (some ⟨B,0,none⟩)] #[]] w (Zh B (jg s d).1 t ow w (.int .i64 (jg s d).2)):=by
 obtain⟨lv,hB,hR,o1,o2⟩:=h;have h0:jl B s t ow w:=⟨lv,hB,hR,o1,o2⟩;unfold xq at hB;have e0:=hB.cell;have l0:=hB.lt;obtain⟨log,cap,isc,keep,cr⟩:=s;obtain⟨hc1,hc2,hc3⟩:=hc;simp only at hc1 hc2 hc3 e0;clear hR o1 o2;replace hB:=G hB;replace h0:=G h0
 cases cr
 ·have hrec:=λW=>zeP d hd W
  obtain⟨⟨r,er⟩,hr⟩:∃x,zZ d=x:=⟨_,rfl⟩;rw [hr] at hrec;unfold zcB at hrec;replace hrec:=G hrec;have hsz:=zC r
  have hwp:jg ⟨log,cap,isc,keep,false⟩ d=if er≠0 then(⟨log,cap,isc,keep,false⟩,30)else if cap<log.length+r.length then(⟨log,cap,isc,keep,false⟩,30)else if isc=false then(⟨log++r,cap,isc,keep,false⟩,0)else(⟨log++r.take (min keep r.length).toNat,cap,false,0,true⟩,31):=by
   unfold jg;simp only [hr];rfl
  have hrl:r.length<=4109:=by
   have:r=(zZ d).1:=by rw [hr]
   rw [this]
   rcases Nat.lt_or_ge 4096 d.length with h|h
   ·unfold zZ;rw [if_pos h];simp
   ·rw [xD h];omega
  replace hr:=G hr
  by_cases he:er=0
  ·subst he
   have t1:((0:Int) !=0)=false:=rfl;rw [if_neg (by simp)] at hwp;have hws:IntKind.i64.wrap ((log.length:Int)+((bs r).size:Int))=(log.length:Int)+r.length:=by rw [N8,hsz];omega
   by_cases hcap:cap<log.length+r.length
   ·rw [if_pos hcap] at hwp
    rw [hwp];have t2:decide (cap<(log.length:Int)+r.length)=true:=by simpa using hcap
    replace hwp:=G hwp;replace hsz:=G hsz
    go_enter func146,ntmps146
    go_wp2_with fail
    refine(hrec.out _).mono ?_;rintro e w1⟨rfl,hb1⟩;have e1:=(hB.out.call hb1).cell;have l1:=(hB.out.call hb1).lt;clear e0;go_wp2;go_ret
    exact⟨rfl,ow,zq.of_below t ow hb1,(jl.loc B _ t).below h0.out hb1⟩
   ·rw [if_neg hcap] at hwp
    have t2:decide (cap<(log.length:Int)+r.length)=false:=by simpa using hcap
    cases isc
    ·rw [if_pos rfl] at hwp
     rw [hwp];replace hwp:=G hwp;have hap:=λW hS=>YN B ⟨log,cap,false,keep,false⟩ t ow r (r.length:Int) W hS (by omega) (Int.le_refl _) (by simp only;omega)
     simp only [Int.toNat_natCast,List.take_length] at hap;replace hap:=G hap
     go_enter func146,ntmps146
     go_wp2_with fail
     refine(hrec.out _).mono ?_;rintro e w1⟨rfl,hb1⟩;have e1:=(hB.out.call hb1).cell;have l1:=(hB.out.call hb1).lt;clear e0;go_wp2_with fail
     refine(hap.out _ ((jl.loc B _ t).below h0.out hb1)).mono ?_;rintro e w2⟨rfl,ow2,hs2,h2⟩;go_wp2;go_ret
     exact⟨rfl,ow2,(zq.of_below t ow hb1).trans hs2,h2⟩
    ·rw [if_neg (by simp)] at hwp
     rw [hwp];replace hwp:=G hwp;obtain⟨m,hm⟩:∃m,min keep (r.length:Int)=m:=⟨_,rfl⟩;rw [hm];have hm0:0<=m:=by omega
     have hm1:m<=r.length:=by omega
     have hmin:min keep ((bs r).size:Int)=m:=by rw [hsz];exact hm
     have hap:=λW hS=>YN B ⟨log,cap,true,keep,false⟩ t ow r m W hS hm0 hm1 (by simp only;omega)
     simp only at hap
     generalize r.take m.toNat=rt at*
     replace hap:=G hap;replace hsz:=G hsz;replace hm:=G hm
     go_enter func146,ntmps146
     go_wp2_with fail
     refine(hrec.out _).mono ?_;rintro e w1⟨rfl,hb1⟩;have e1:=(hB.out.call hb1).cell;have l1:=(hB.out.call hb1).lt;clear e0;go_wp2_with fail
     refine(hap.out _ ((jl.loc B _ t).below h0.out hb1)).mono ?_;rintro e w2⟨rfl,ow2,hs2,⟨lv2,hB2,hR2,o12,o22⟩⟩;have hw:=λs' W'=>VI (s':=s') (W':=W') hR2 hB2 o12 o22
     unfold xq at hB2 hw;simp only at hB2 hw;have f2:=hB2.frozen;have l2:=hB2.lt;have e2:=hB2.cell;clear e1 hR2 o12 o22;replace hw:=G hw;replace hB2:=G hB2;go_wp2;go_ret
     have hq:=hw.out ⟨log++rt,cap,false,0,true⟩ (((w2.setCell ⟨B,3,none⟩ (.bool false)).setCell ⟨B,4,none⟩ (.int .i64 0)).setCell ⟨B,5,none⟩ (.bool true)) ((((Mod.refl (λk=>k=B) w2).thenSet (p:=⟨B,3,none⟩) rfl _).thenSet (p:=⟨B,4,none⟩) rfl _).thenSet (p:=⟨B,5,none⟩) rfl _)
      (((hB2.out.set (o:=3) (.bool false)).set (o:=4) (.int .i64 0)).set (o:=5) (.bool true)) rfl
     exact⟨rfl,ow2,((zq.of_below t ow hb1).trans hs2).trans hq.1,hq.2⟩
  ·have t1:(er !=0)=true:=by simpa using he
   rw [if_pos he] at hwp;rw [hwp];replace hwp:=G hwp;replace he:=G he
   go_enter func146,ntmps146
   go_wp2_with fail
   refine(hrec.out _).mono ?_;rintro e w1⟨rfl,hb1⟩;go_wp2;go_ret
   exact⟨rfl,ow,zq.of_below t ow hb1,(jl.loc B _ t).below h0.out hb1⟩
 ·have hwp:jg ⟨log,cap,isc,keep,true⟩ d=(⟨log,cap,isc,keep,true⟩,31):=by unfold jg;rw [if_pos rfl]
  rw [hwp];replace hwp:=G hwp
  go_enter func146,ntmps146
  go_wp2;go_ret
  exact⟨rfl,ow,zq.refl _ _ _,h0.out⟩
theorem zcM(B:Nat)(s:j1)(t:List Nat)(ow:Own)(d:List UInt8)(w:World)(h:jl B s t ow w)(hc:vp s)(hd:d.length<=1073741000):
 Calls prog 112 #[.pointer (some ⟨B,0,none⟩),.string (bs d)] w (Zh B (jg s d).1 t ow w (.int .i64 (jg s d).2)):=by
 have hl:s.log.length<=1073741824:=by have:=hc.1;have:=hc.2.1;omega
 have hho:=λW hS=>zgX B s t ow W hS hl
 have hwr:=λW hS=>zcL B s t ow d W hS hc hd
 generalize jg s d=R at*
 replace hho:=G hho;replace hwr:=G hwr;replace h:=G h;replace hc:=G hc
 go_enter func112,ntmps112
 go_wp2_with fail
 refine zd [O 0,O 1,O 2,O 3,O 4,O 6,O 7,O 8,O 9,E 5,E 10,O 11] none (λw'=>True) (by kernel_rfl) (by kernel_rfl) trivial ?_
 (repeat (refine za (v:=?_) rfl rfl (λw' h=>?_) (λK k=>?_);rotate_left;obtain⟨f1,f2,f3,f4,f5,_⟩:=h;(try have e1:=f1.cell);(try have e2:=f2.cell);(try have e3:=f3.cell);(try have e4:=f4.cell);(try have e5:=f5.cell);go_simp;(try with_reducible rfl);go_simp;refine k _ ?_;clear k K))
 refine zc rfl (λK hK=>?_);go_wp2_with fail
 refine(hho.out _ ((jl.loc B s t).below h.out (pbx))).mono ?_;rintro e w1⟨rfl,hb1⟩;have hb1':Below w.heap.size w w1:=pbx;go_wp2;refine hK.out _ _ (λ_=>trivial) ?_;clear hK K;refine zc rfl (λK hK=>?_);go_wp2_with fail
 refine(hwr.out _ ((jl.loc B s t).below h.out hb1')).mono ?_;rintro e w2⟨rfl,ow2,hs2,h2⟩;go_wp2;refine hK.out _ _ (λ_=>trivial) ?_;clear hK K
 (repeat (refine za (v:=?_) rfl rfl (λw' h=>?_) (λK k=>?_);rotate_left;obtain⟨f1,f2,f3,f4,f5,_⟩:=h;(try have e1:=f1.cell);(try have e2:=f2.cell);(try have e3:=f3.cell);(try have e4:=f4.cell);(try have e5:=f5.cell);go_simp;(try with_reducible rfl);go_simp;refine k _ ?_;clear k K))
 refine ze ?_;go_wp2;go_ret
 exact⟨rfl,ow2,(zq.of_below t ow hb1').trans hs2,h2⟩
def vB(s:List UInt8):List (List UInt8)×Nat:=xp s.length s
theorem Qf:∀(n m:Nat)(s:List UInt8),s.length<=n->s.length<=m->xp n s=xp m s
 |0,0,s,_,_=>rfl
 |0,m+1,s,h,_=>by
  obtain rfl:s=[]:=N9 (by omega);rfl
 |n+1,0,s,_,h=>by
  obtain rfl:s=[]:=N9 (by omega);rfl
 |n+1,m+1,s,h1,h2=>by
  unfold xp
  by_cases h:(jm s).2=0
  ·rw [if_pos h,if_pos h]
  ·rw [if_neg h,if_neg h]
   have hs:=vU s;have:=Qf n m (s.drop (jm s).2) (by simp;omega) (by simp;omega);rw [this]
theorem ze3 {s:List UInt8}(h:(jm s).2=0):vB s=([],0):=by
 unfold vB
 cases hs:s.length with
 |zero=>rfl
 |succ n=>unfold xp;rw [if_pos h]
theorem ze4 {s:List UInt8}(h:(jm s).2≠0):vB s=((jm s).1::(vB (s.drop (jm s).2)).1,(jm s).2+(vB (s.drop (jm s).2)).2):=by
 have hz:=vU s;unfold vB
 cases hs:s.length with
 |zero=>omega
 |succ n=>
  rw [show xp (n+1) s=((jm s).1::(xp n (s.drop (jm s).2)).1,(jm s).2+(xp n (s.drop (jm s).2)).2)by rw [xp,if_neg h]];rw [Qf n (s.drop (jm s).2).length (s.drop (jm s).2) (by simp;omega) (N0 _)]
structure Qg(s:List UInt8)(ab gb:Nat)(W0:World)(l:List (List UInt8))(n:Nat)(v:Value)(X:Nat->Prop)(W:World):Prop where
 fr:Fr (λk=>k=ab∨k=gb) W0 X W
 ka:Blk W ab #[v] 167
 kg:Blk W gb #[.int .i64 (n:Nat)] 3
 row:Row W 9 1 v l.length (yB l)
 new:∀g,v.ownBlock=some g->W0.heap.size<=g/\¬X g
theorem Qg.stab {s:List UInt8}{ab gb:Nat}{W0:World}{l:List (List UInt8)}{n:Nat}{v:Value}{X X':Nat->Prop}{W W':World}(h:Qg s ab gb W0 l n v X W)(ha:ab<W0.heap.size)(hg:gb<W0.heap.size)
 (hm:Mod X W W') (hx:∀k,X' k->X k∨(W.heap.size<=k/\k<W'.heap.size)):Qg s ab gb W0 l n v X' W' where
 fr:=h.fr.step hm hx
 ka:=h.ka.kept (h.fr.block hm ha)
 kg:=h.kg.kept (h.fr.block hm hg)
 row:=h.row.mod hm (λg hg=>(h.new g hg).2)
 new:=λg hg=>⟨(h.new g hg).1,λhX=>by
  rcases hx g hX with h1|h1
  ·exact(h.new g hg).2 h1
  ·have:=h.row.lt hg;omega⟩
theorem VU {B:Nat}{w W:World}(h:Below B w W):Below B w W.drew:=h.drew
def Q5(s:List UInt8)(w:World)(e:Ending)(w':World):Prop:=
 ∃v,e=.returned (.tuple #[v,.int .i64 ((vB s).2:Nat)])/\Below w.heap.size w w'/\Src w' v 1 (vB s).1.length (yB (vB s).1)/\∀a l c,v=.slice (some a) l c->w.heap.size<=a.block
theorem Qh(s:List UInt8)(hl:s.length<=1073741824)(w:World):Calls prog 128 #[.string (bs s)] w (Q5 s w):=by
 refine zl func128 rfl ?_;simp only [ntmps128,R8,Nat.reduceAdd,Nat.reduceSub];go_wp2;go_step3;go_wp2;go_step3;go_wp2_with fail
 refine(zeO _ _).mono ?_;rintro e w1⟨rfl,rfl⟩;go_wp2_with fail
 obtain⟨W0,hW0⟩:∃W0,W0=(((w.alloc (.cells #[.slice none 0 0] 167)).alloc (.cells #[.int .i64 0] 3)).alloc (.cells #[.string (bs s)] 9)):=⟨_,rfl⟩;have hsz:W0.heap.size=w.heap.size+3:=by rw [hW0];simp
 have hb0:Below w.heap.size w W0:=by rw [hW0];exact pbx
 have ka0:Blk W0 w.heap.size #[.slice none 0 0] 167:=by rw [hW0];exact bkx
 have kg0:Blk W0 (w.heap.size+1) #[.int .i64 0] 3:=by rw [hW0];exact bkx
 have kc0:Blk W0 (w.heap.size+1+1) #[.string (bs s)] 9:=by rw [hW0];exact bkx
 rw [← hW0];clear hW0
 refine yh (gf:=213) (lb:=#[.pointer (some ⟨w.heap.size+1+1,0,none⟩)]) rfl (enters_of func213 (by kernel_rfl) rfl)
  (zcA (w.heap.size+1+1) s hl) (λ_=>rfl)
  (λr X W=>r.2=false/\∃l n v,vB s=(l++(vB r.1).1,n+(vB r.1).2)/\n+r.1.length=s.length/\9*l.length<=n/\Qg s w.heap.size (w.heap.size+1) W0 l n v X W)
  (λc X W=>c=.exit 0/\∃v,Qg s w.heap.size (w.heap.size+1) W0 (vB s).1 (vB s).2 v X W)
  (λr X X' W W' h hm hx=>by obtain⟨hr,l,n,v,h1,h2,h2',h3⟩:=h;exact⟨hr,l,n,v,h1,h2,h2',h3.stab (by omega) (by omega) hm hx⟩)
  (λc _ X X' W W' h hm hx=>by obtain⟨hc,v,h3⟩:=h;exact⟨hc,v,h3.stab (by omega) (by omega) hm hx⟩)
  (λr X W h=>by obtain⟨hr,l,n,v,h1,h2,h2',h3⟩:=h;exact kc0.mod h3.fr.2 (by omega))
  ⟨rfl,[],0,.slice none 0 0,by simp,by simp,by simp,Fr.refl _ _,ka0,kg0,zX _ _ _,by simp [Value.ownBlock]⟩
  (λx=>[(6,.string (bs x.1)),(7,.int .i64 (x.2:Nat))]) ?assign ?body ?done ?stop
 case assign=>
  intro l' x W K hK;unfold zdY at hK⊢;rw [yE] at hK⊢
  gi_wp2
  exact hK
 case body=>
  rintro l'⟨r,b⟩⟨d,m⟩ X W⟨hb,l,n,v,hrf,hn,hnl,hI⟩⟨-,hx,hrl⟩ hXl _;simp only at hb hrf hn hx hrl;subst hb;unfold zdY;rw [yE];have hfs:=vU r;rw [← hx] at hfs;simp only at hfs
  by_cases hm:m=0
  ·subst hm
   have hz:=ze3 (s:=r) (by rw [← hx]);rw [hz] at hrf;have hrf':vB s=(l,n):=by simpa using hrf
   have hI':Qg s w.heap.size (w.heap.size+1) W0 (vB s).1 (vB s).2 v X W:=by rw [hrf'];exact hI
   clear hI hrf hrf';replace hx:=G hx;replace hz:=G hz
   gi_wp2
   exact⟨⟨rfl,v,hI'⟩,ju.refl _ _⟩
  ·have hz:=ze4 (s:=r) (by rw [← hx];exact hm)
   rw [← hx] at hz;simp only at hz;obtain⟨hfr,ka,kg,hrow,hnew⟩:=hI;have t0:((m:Int)==0)=false:=by simpa using hm
   have hw:IntKind.i64.wrap ((n:Int)+(m:Int))=((n+m:Nat):Int):=by rw [N8];omega
   have ea:=ka.cell;have eg:=kg.cell;have lg:=kg.lt;have la:=ka.lt;have hz0:=hfr.2.size;have hlt:l.length+1<=1073741824:=by omega
   have hva:∀g,v.ownBlock=some g->g≠w.heap.size/\g≠w.heap.size+1:=λg hg=>by have:=(hnew g hg).1;omega
   obtain⟨v',W3,hrun,hrow3,hgr,hown⟩:=zI zla (hrow.below ((N2 _ _).alloc (N0 _) (.cells #[.string (bs d)] 9))) (jB (n:=1) (size:=1) (cap:=1) (Blk.new (w:=W) (cs:=#[.string (bs d)]) (t:=9) rfl) rfl (N0 1)) (zgi [d]) hlt 167;have ka3:=(ka.alloc (.cells #[.string (bs d)] 9)).kept (hgr.block _ (by simp;omega) (λe=>(hva _ e.symm).1 rfl));have kg3:=(kg.alloc (.cells #[.string (bs d)] 9)).kept (hgr.block _ (by simp;omega) (λe=>(hva _ e.symm).2 rfl));have fa3:=ka3.frozen;have ea3:=ka3.cell;have la3:=ka3.lt;have eg3:=kg3.cell;have fg3:=kg3.frozen;have lg3:=kg3.lt;obtain⟨va,vn,vc,rfl⟩:=hrow.shape;obtain⟨sa,sm,sc,rfl⟩:=hrow3.shape;replace hx:=G hx;replace hz:=G hz;replace hrf:=G hrf;replace hrow:=G hrow;replace hrow3:=G hrow3;replace hown:=G hown;replace hnew:=G hnew;replace hva:=G hva;clear eg
   gi_wp2_with (gi_at_builtin
                refine jL rfl _ _ _ rfl rfl rfl hrun ?_)
   have hm4:Mod (λk=>k=w.heap.size∨k=w.heap.size+1∨(Value.slice va vn vc).ownBlock=some k) W ((W3.setCell ⟨w.heap.size,0,none⟩ (.slice sa sm sc)).setCell ⟨w.heap.size+1,0,none⟩ (.int .i64 ((n:Int)+(m:Int)))):=
    ((((Mod.refl (λk=>k=w.heap.size∨k=w.heap.size+1∨(Value.slice va vn vc).ownBlock=some k) W).thenAlloc (.cells #[.string (bs d)] 9)).trans (Mod.grown (X:=λk=>k=w.heap.size∨k=w.heap.size+1∨(Value.slice va vn vc).ownBlock=some k) hgr (λk h=>.inr (.inr h))) (λ_ _ e=>e) (λ_ _ e=>e)).thenSet (p:=⟨w.heap.size,0,none⟩) (.inl rfl) _).thenSet (p:=⟨w.heap.size+1,0,none⟩) (.inr (.inl rfl)) _
   have hg5:∀g,(Value.slice sa sm sc).ownBlock=some g->((Value.slice va vn vc).ownBlock=some g∨g=W.heap.size+1):=λg hg=>by
    have:=hown.out;rw [hg] at this
    rcases this with h|h
    ·exact .inl h.symm
    ·right;simpa using h
   have hg6:∀g,(Value.slice sa sm sc).ownBlock=some g->W0.heap.size<=g/\¬X g:=λg hg=>by
    rcases hg5 g hg with h|h
    ·exact hnew.out g h
    ·subst h;exact⟨by omega,λhX=>by have:=(hfr.1 _ hX).2;omega⟩
   have hne:w.heap.size≠w.heap.size+1:=by omega
   refine⟨⟨rfl,l++ [d],n+m,?_,?_,?_,.slice sa sm sc,hfr.mod hm4 (λk hk h=>?_),?_,?_,?_,hg6⟩,ju.of_mod hm4 (λk hk hX h=>?_)⟩
   ·rw [hrf.out,hz.out];simp;omega
   ·simp;omega
   ·simp;omega
   ·rcases h with h|h|h
    ·exact .inl h
    ·exact .inr h
    ·have:=(hnew.out k h).1;omega
   ·exact(ka3.set (o:=0) _).other (p:=⟨w.heap.size+1,0,none⟩) hne _
   ·have:=(kg3.other (p:=⟨w.heap.size,0,none⟩) (Ne.symm hne) (.slice sa sm sc)).set (o:=0) (.int .i64 ((n:Int)+(m:Int)))
    rw [show((n+m:Nat):Int)=(n:Int)+(m:Int)by omega];exact this
   ·rw [N1,U2,YE]
    refine Row.kept (w:=W3) hrow3.out (λg hg=>?_);have:=(hg6 g hg).1;exact(N4 _ _ _ _ (show g≠w.heap.size+1 by omega)).trans (N4 _ _ _ _ (show g≠w.heap.size by omega))
   ·have:=hfr.1 k hX
    rcases h with h|h|h
    ·omega
    ·omega
    ·exact(hnew.out k h).2 hX
 case done=>
  rintro D r X W hD hXD hfin⟨hb, -⟩ hdef;rw [hb] at hfin
  cases hfin
 case stop=>
  rintro D c X W hD hXD⟨rfl,v,hI⟩ hdef;obtain⟨hfr,ka,kg,hrow,hnew⟩:=hI;have hbW:Below w.heap.size w W:=hb0.trans (hfr.below (by omega) (λk hk=>by omega));have hpost:∀v W',Below w.heap.size w W'->Src W' v 1 (vB s).1.length (yB (vB s).1)->(∀a l c,v=.slice (some a) l c->w.heap.size<=a.block)->Q5 s w (.returned (.tuple #[v,.int .i64 ((vB s).2:Nat)])) W':=λv W' h1 h2 h3=>⟨v,rfl,h1,h2,h3⟩
  generalize(vB s).1=l at*
  generalize(vB s).2=n at*
  have hns:∀g,v.ownBlock=some g->w.heap.size<=g:=λg hg=>by have:=(hnew g hg).1;omega
  replace hpost:=G hpost
  rcases hrow.form with⟨rfl,hl0,hx0⟩|⟨g,cap,rfl,hc1,hc2⟩
  ·obtain rfl:l=[]:=N9 hl0
   clear hrow hfr hnew;go_wp2_with fail
   refine zd [O 0,O 1,O 2,O 3,O 4,O 5,O 6,O 7,O 8] none (λw'=>Blk w' w.heap.size #[.slice none 0 0] 167/\Blk w' (w.heap.size+1) #[.int .i64 (n:Nat)] 3/\True) (by kernel_rfl) (by kernel_rfl) ⟨ka.drew,kg.drew,trivial⟩ ?_
   (repeat (refine za (v:=?_) rfl rfl (λw' h=>?_) (λK k=>?_);rotate_left;obtain⟨f1,f2,_⟩:=h;have e1:=f1.cell;have e2:=f2.cell;go_simp;(try with_reducible rfl);go_simp;refine k _ ?_;clear k K))
   refine ze ?_;go_wp2;rw [Exit.noGoto_ret];refine zS (D:=D) (v:=.tuple #[.slice none 0 0,.int .i64 (n:Nat)]) hdef (by simp [results,Tryz.results128,go_sem]) (hpost.out _ _ ?_ (zge _ _) (λa l c h=>by cases h));exact zF (VU hbW) (by omega) _
  ·obtain⟨cur,hcur⟩:=hrow.type (g:=g) rfl
   have hgD:g≠D:=λe=>by subst e;rw [hdef] at hcur;cases hcur
   have hgw:=hns g rfl;have y0:(l.length:Int)<=cap:=by omega
   unfold maxLen at hc2;have y1:(cap:Int)<=9223372036854775807:=by omega
   have hsrc:Src W (.slice (some ⟨g,0,none⟩) l.length l.length) 1 l.length (yB l):=by
    have h:=hrow.src;refine⟨h.1,.inr ⟨g,0,l.length,rfl,N0 _,?_⟩⟩
    rcases h.2 with⟨h0, -⟩|⟨b',off',cap',h0, -,hr⟩
    ·cases h0
    ·cases h0;exact hr
   clear hrow hfr hnew;replace hsrc:=G hsrc;go_wp2_with fail
   refine zd [O 0,O 1,O 2,O 3,O 4,O 5,O 6,O 7,O 8] none (λw'=>Blk w' w.heap.size #[.slice (some ⟨g,0,none⟩) l.length cap] 167/\Blk w' (w.heap.size+1) #[.int .i64 (n:Nat)] 3/\True) (by kernel_rfl) (by kernel_rfl) ⟨ka.drew,kg.drew,trivial⟩ ?_
   (repeat (refine za (v:=?_) rfl rfl (λw' h=>?_) (λK k=>?_);rotate_left;obtain⟨f1,f2,_⟩:=h;have e1:=f1.cell;have e2:=f2.cell;go_simp;(try with_reducible rfl);go_simp;refine k _ ?_;clear k K))
   refine ze ?_;go_wp2;rw [Exit.noGoto_ret];refine zS (D:=D) (v:=.tuple #[.slice (some ⟨g,0,none⟩) l.length l.length,.int .i64 (n:Nat)]) hdef (by simp [results,Tryz.results128,go_sem]) (hpost.out _ _ ?_ ?_ (λa l c h=>?_))
   ·exact zF (VU hbW) (by omega) _
   ·exact Src.kept (w:=W) hsrc.out (λa l c h=>by cases h;exact U1 hgD)
   ·cases h;exact hgw
