/- PARTS OF THE PROOF. -/
import Derived.Test.YtofppfoioodblaaGreatDoorTT14
import Derived.Test.YtofppfoioodblaaGreatDoorTT15
set_option maxRecDepth 8000
set_option maxHeartbeats 4000000
open Go.Proofs.Tryz
namespace Go.Proofs.YtofppfoioodblaaGreatDoor
section
open Go
theorem ze2 {m:zy}(h:zB m=true)(q:List zy×xn):jV q ([109] ++(ye [m]).1)=(q.1++ [m],q.2):=by
 have hp:=Q0 h;have hu:=VM (l:=[m]) (by rw [hp])
 show jV q (109::(ye [m]).1)=_
 unfold jV;simp only;rw [hu,if_pos (by simp)]
theorem XM {s:StD}{n:zp}{l:List (List UInt8)}(h:Q5 s n l)(d:List UInt8):
 ∃l',vE s n l (zF n d).1 l'/\((zF n d).2.2=0->(zF n d).2.1.1=(n.id,n.acc.length+1)/\(zF n d).1.acc=n.acc++ [(zF n d).2.1] /\n.down=false):=by
 unfold zF
 by_cases hd:n.down=false
 ·rw [if_neg (by rw [hd];simp)]
  obtain⟨hc,ha,hx⟩:=h.up hd;obtain⟨vals,hv⟩:=h.loc
  by_cases hr:zB ((n.id,n.acc.length+1),d)=false
  ·rw [if_pos hr];exact⟨l,vE.refl h,λh=>by simp at h⟩
  ·rw [if_neg hr]
   have hr':zB ((n.id,n.acc.length+1),d)=true:=by simpa using hr
   have hrep:=ze2 hr' (RR l)
   generalize hmm:((n.id,n.acc.length+1),d)=m at*
   generalize [109] ++(ye [m]).1=rec at*
   have hRR:RR (l++ [rec])=((RR l).1++ [m],(RR l).2):=by rw [zcM];exact hrep
   have hids:ziM n.id (RR l).1->ziM n.id (RR (l++ [rec])).1:=λx j y hj=>by
    rw [hRR] at hj;have hj':((RR l).1++ [m])[j]?=some y:=hj
    rcases Nat.lt_or_ge j (RR l).1.length with hlt|hge
    ·rw [U8 hlt] at hj';exact x j y hj'
    ·rw [U6 hge] at hj'
     have hj2:j=(RR l).1.length:=by
      have:=(N6.1 hj').1;simp at this;omega
     subst hj2;simp at hj'
     rw [← hj',← hmm,ha]
   unfold yf;simp only [Bool.false_and,Bool.or_false]
   rcases X7 h.kept rec with⟨h1, -,h3,h4⟩|⟨h1,h2,h3⟩|⟨h1,h2⟩
   ·rw [if_neg (by rw [h1];simp)]
    have ho:=vC (n.acc.length+1) {n with store:=(z6 n.store rec).1,down:=n.down||decide ((z6 n.store rec).2=31),acc:=n.acc++ [m] };have hdn:(n.down||decide ((z6 n.store rec).2=31))=false:=by rw [h1,hd];rfl
    have hinv:Q5 s {n with store:=(z6 n.store rec).1,down:=n.down||decide ((z6 n.store rec).2=31),acc:=n.acc++ [m] } (l++ [rec]):=
     ⟨h4,λ_=>⟨h3,by show n.acc++ [m]=_;rw [hRR,ha],by show n.pax=_;rw [hRR,hx]⟩,by show n.acc++ [m] <+:_;rw [hRR,ha];exact U0 _,vals,hv.more _ rfl rfl rfl rfl⟩
    refine⟨l++ [rec],⟨hinv.same ho.1 ho.2.2 ho.2.1,List.prefix_append _ _,?_,?_,hids,ho.1.id,ho.1.version,ho.1.bad⟩,λ_=>⟨?_,ho.1.acc,hd⟩⟩
    ·rw [ho.1.acc];exact List.prefix_append _ _
    ·rw [ho.2.1];exact U0 _
    ·show m.1=_;rw [← hmm]
   ·rw [if_pos (by rw [h1];simp)]
    have hdn:(n.down||decide ((z6 n.store rec).2=31))=true:=by rw [h1];simp
    have hup:∀l'',((n.down||decide ((z6 n.store rec).2=31))=false->(z6 n.store rec).1.crashed=false/\n.acc=(RR l'').1/\n.pax=(RR l'').2):=λl'' h=>by rw [hdn] at h;cases h
    rcases h3 with h3|h3
    ·exact⟨l,⟨⟨h3,hup l,h.acc,vals,hv⟩,U0 _,U0 _,U0 _,(λh=>h),rfl,rfl,rfl⟩,λh=>by rw [h1] at h;simp at h⟩
    ·refine⟨l++ [rec],⟨⟨h3,hup _,?_,vals,hv.more _ rfl rfl rfl rfl⟩,List.prefix_append _ _,U0 _,U0 _,hids,rfl,rfl,rfl⟩,λh=>by rw [h1] at h;simp at h⟩
     show n.acc<+:_;rw [hRR];exact h.acc.trans (List.prefix_append _ _)
   ·rw [if_pos (by rw [h1];simp)]
    have hdn:(n.down||decide ((z6 n.store rec).2=31))=n.down:=by rw [h1];simp
    refine⟨l,⟨⟨by show zeT (z6 n.store rec).1 l;rw [h2];exact h.kept,λ_=>?_,h.acc,vals,hv⟩,U0 _,U0 _,U0 _,(λh=>h),rfl,rfl,rfl⟩,λh=>by rw [h1] at h;simp at h⟩
    show(z6 n.store rec).1.crashed=false/\_;rw [h2];exact⟨hc,ha,hx⟩
 ·rw [if_pos (by simpa using hd)]
  exact⟨l,vE.refl h,λh=>by simp at h⟩
theorem zg2 {s:StD}{n:zp}{l:List (List UInt8)}(h:Q5 s n l)(v:Int):vE s n l (ZY n v).1 l:=by
 unfold ZY
 split
 ·exact vE.refl h
 ·split
  ·exact vE.refl h
  ·exact⟨h.same ⟨rfl,rfl,rfl,rfl,rfl,rfl,rfl⟩ rfl rfl,U0 _,U0 _,U0 _,(λh=>h),rfl,rfl,rfl⟩
theorem ziO {s:StD}{n:zp}{l:List (List UInt8)}(h:Q5 s n l)(k:Int):vE s n l (zjY n k).1 l:=by
 unfold zjY
 split
 ·exact vE.refl h
 ·have hk:=ziK h.kept k
  obtain⟨vals,hv⟩:=h.loc;exact⟨⟨hk.1,λhd=>⟨hk.2.trans (h.up hd).1,(h.up hd).2⟩,h.acc,vals,hv⟩,U0 _,U0 _,U0 _,(λh=>h),rfl,rfl,rfl⟩
theorem ze3 {s:StD}{n:zp}{l:List (List UInt8)}(h:Q5 s n l):vE s n l (VF n).1 l:=by
 unfold VF
 split
 ·exact vE.refl h
 ·obtain⟨vals,hv⟩:=h.loc
  exact⟨⟨h.kept,(λhd=>absurd hd (by simp)),h.acc,vals,hv⟩,U0 _,U0 _,U0 _,(λh=>h),rfl,rfl,rfl⟩
theorem zbg {known:List (Int×List UInt8)}(hk:yp known){a b:List (List UInt8)}(ha:∀(j:Nat)(x:List UInt8),a[j]?=some x->zD ((j:Int)+1) known=some x)(hb:∀(j:Nat)(x:List UInt8),b[j]?=some x->zD ((j:Int)+1) known=some x)
 (he:zD ((b.length:Int)+1) known=none∨b.length=10001):a<+:b:=by
 have hlen:a.length<=b.length:=by
  rcases Nat.lt_or_ge b.length a.length with h|h
  ·exfalso
   obtain⟨x,hx⟩:∃x,a[b.length]?=some x:=⟨_,N3 h⟩;have h1:=ha _ _ hx
   rcases he with he|he
   ·rw [he] at h1;cases h1
   ·have:=hk _ _ h1;omega
  ·exact h
 rw [List.prefix_iff_eq_take]
 apply List.ext_getElem?
 intro j;rw [List.getElem?_take]
 split
 ·rename_i hj
  obtain⟨x,hx⟩:∃x,a[j]?=some x:=⟨_,N3 hj⟩;obtain⟨y,hy⟩:∃y,b[j]?=some y:=⟨_,N3 (by omega)⟩;have h1:=ha _ _ hx;have h2:=hb _ _ hy;rw [h1] at h2;cases h2
  rw [hx,hy]
 ·rename_i hj;rw [List.getElem?_eq_none (by omega)]
theorem zbh {s:StD}{n:zp}{l:List (List UInt8)}(h:Q5 s n l):vE s n l (yP n s) l/\(yP n s).down=false:=by
 obtain⟨r1,r2,r3⟩:=za2 h.kept;obtain⟨vals,hv⟩:=h.loc;unfold yP;simp only;rw [r1,Q3]
 generalize hm:({qa {n with store:=(jr n.store).1} s with acc:=(l.foldl jV ((qa {n with store:=(jr n.store).1} s).acc,(qa {n with store:=(jr n.store).1} s).pax)).1,pax:=(l.foldl jV ((qa {n with store:=(jr n.store).1} s).acc,(qa {n with store:=(jr n.store).1} s).pax)).2} :zp)=m
 have m1:m.acc=(RR l).1:=by rw [← hm];rfl
 have m2:m.pax=(RR l).2:=by rw [← hm];rfl
 have m3:m.store=(jr n.store).1:=by rw [← hm];rfl
 have m4:m.id=n.id/\m.version=n.version/\m.bad=n.bad:=by rw [← hm];exact⟨rfl,rfl,rfl⟩
 have hA:xt m s m.pax.known []:=⟨by rw [← hm];rfl,by rw [← hm];rfl,λj x hj=>by simp at hj⟩;obtain⟨hs,more,h1,h2⟩:=VP s 10001 m [] hA;rw [List.nil_append] at h1 h2;rw [m2] at h1 h2;have ho:=vC ((jn 10001 m).1.acc.length+1) (jn 10001 m).1
 generalize jG ((jn 10001 m).1.acc.length+1) (jn 10001 m).1=q at*
 have hq:xu m q:=hs.trans ho.1;have hAq:xt q s (RR l).2.known more:=⟨h1.1.trans ho.2.2.symm,by rw [ho.2.1,h1.2.1,ho.1.version,ho.1.bad],h1.2.2⟩;have hpre:=zbg (Q4 l) hv.2.2 h1.2.2 h2;refine⟨⟨⟨by show zeT q.store l;rw [hq.store,m3];exact r2,λ_=>⟨by show q.store.crashed=false;rw [hq.store,m3];exact r3,by show q.acc=_;rw [hq.acc,m1],by show q.pax=_;rw [hq.pax,m2]⟩,by show q.acc<+:_;rw [hq.acc,m1];exact U0 _,more,hAq⟩,U0 _,?_,?_,(λh=>h),hq.id.trans m4.1,hq.version.trans m4.2.1,hq.bad.trans m4.2.2⟩,by first|exact rfl|exact trivial⟩
 ·show n.acc<+:q.acc;rw [hq.acc,m1];exact h.acc
 ·show n.loc.log<+:q.loc.log
  rw [hAq.2.1,hv.2.1,hq.version,hq.bad,m4.2.1,m4.2.2];obtain⟨t,ht⟩:=hpre;rw [← ht];exact zbc _ _ _ _ _
structure zkz where
 what:Int
 inst:Int
 b:Nat
 s:List UInt8
def zbi(x:zkz):List UInt8:=if x.b=77 then List.replicate 1100 0 else x.s.take 300
def zbj(x:zkz):Nat:=(x.what % 18446744073709551616).toNat % 9
def zcO(s:StD)(n:zp)(x:zkz):zp:=
 if zbj x=0 then(zF n (zbi x)).1
 else if zbj x=1 then(zA n x.inst x.b).1
 else if zbj x=2 then(yE n x.inst x.b (zbi x)).1
 else if zbj x=3 then(ja n x.inst (zbi x)).1
 else if zbj x=4 then(ZY n x.inst).1
 else if zbj x=5 then(zjY n x.inst).1
 else if zbj x=6 then(VF n).1
 else if zbj x=7 then yP n s
 else if(jP n).2 then(ja n (yy n) (jP n).1).1 else n
theorem zbk {s:StD}{n:zp}{l:List (List UInt8)}(h:Q5 s n l)(x:zkz)(hb:x.b<18446744073709551616):∃l',vE s n l (zcO s n x) l':=by
 unfold zcO
 split
 ·obtain⟨l',h1, -⟩:=XM h (zbi x);exact⟨l',h1⟩
 split
 ·obtain⟨l',h1, -⟩:=zbe h x.inst x.b hb;exact⟨l',h1⟩
 split
 ·exact zbf h x.inst x.b (zbi x) hb
 split
 ·exact Yo h x.inst (zbi x)
 split
 ·exact⟨l,zg2 h _⟩
 split
 ·exact⟨l,ziO h _⟩
 split
 ·exact⟨l,ze3 h⟩
 split
 ·exact⟨l,(zbh h).1⟩
 split
 ·exact Yo h _ _
 ·exact⟨l,vE.refl h⟩
def zgd(id v cap:Int)(bad:List Int)(s:StD):zp:={id:=id,version:=v,bad:=bad,store:=qC cap,pax:=x9,loc:=zh9 v s,pool:=qD,acc:=[],offered:=0,applied:=0,wanted:=0,down:=false}
theorem ziP(id v cap:Int)(bad:List Int)(s:StD):Q5 s (zgd id v cap bad s) []:=⟨QX cap,λ_=>⟨rfl,rfl,rfl⟩,U0 _,[],rfl,rfl,λj x hj=>by simp at hj⟩
def vz(s:yb):Prop:=(s.log.length:Int)<=s.cap/\s.cap<=1048576/\0<=s.keep
theorem zg3 {s:yb}(h:vz s)(d:List UInt8):vz (z6 s d).1/\(z6 s d).1.cap=s.cap:=by
 obtain⟨h1,h2,h3⟩:=h;unfold z6
 split
 ·exact⟨⟨h1,h2,h3⟩,rfl⟩
 ·split
  ·exact⟨⟨h1,h2,h3⟩,rfl⟩
  ·split
   ·exact⟨⟨h1,h2,h3⟩,rfl⟩
   ·rename_i hc
    split
    ·refine⟨⟨?_,h2,h3⟩,rfl⟩
     show(((s.log++(zG d).1).length:Nat):Int)<=s.cap
     rw [N1];omega
    ·refine⟨⟨?_,h2,Int.le_refl _⟩,rfl⟩
     show(((s.log++(zG d).1.take (min s.keep ((zG d).1.length:Int)).toNat).length:Nat):Int)<=s.cap
     rw [N1,N7];omega
theorem zj4 {s:yb}(h:vz s)(k:Int):vz (zjX s k).1:=by
 obtain⟨h1,h2,h3⟩:=h;unfold zjX
 split
 ·exact⟨h1,h2,h3⟩
 ·split
  ·exact⟨h1,h2,h3⟩
  ·exact⟨h1,h2,by show 0<=k;omega⟩
theorem zcP {s:yb}(h:vz s):vz (jr s).1:=by
 obtain⟨h1,h2,h3⟩:=h;unfold jr;refine⟨?_,h2,Int.le_refl _⟩
 show((s.log.take (xq s.log.length s.log).2).length:Int)<=s.cap
 rw [N7];omega
theorem zbl {cap:Int}(h1:64<=cap)(h2:cap<=1048576):vz (qC cap):=⟨by simp [qC];omega,h2,Int.le_refl _⟩
theorem Zu {n:zp}(h:vz n.store)(b:Bool)(d:List UInt8):vz (yf n b d).1.store:=(zg3 h d).1
theorem xu.cap {n m:zp}(hs:xu n m)(h:vz n.store):vz m.store:=by rw [hs.store];exact h
def zbm(s:StD)(n:zp):Prop:=(∃l,Q5 s n l)/\vz n.store
theorem yX:∀(k:Nat)(n:zp),xu n (jn k n).1
 |0,n=>xu.refl n
 |k+1,n=>by
  unfold jn
  cases zD ((n.applied:Int)+1) n.pax.known with
  |none=>exact xu.refl n
  |some x=>
   simp only
   split
   ·have h:=yX k {n with applied:=n.applied+1}
    exact⟨h.id,h.version,h.bad,h.store,h.pax,h.acc,h.down⟩
   ·have h1:=(Yn {n with applied:=n.applied+1} (jo x).1).1
    have h:=yX k (vJ {n with applied:=n.applied+1} (jo x).1).1;exact xu.trans ⟨h1.id,h1.version,h1.bad,h1.store,h1.pax,h1.acc,h1.down⟩ h
theorem Q6 {n:zp}(h:vz n.store)(d:List UInt8):vz (zF n d).1.store:=by
 unfold zF
 split
 ·exact h
 split
 ·exact h
 split
 ·exact Zu h _ _
 ·exact(vC _ _).1.cap (Zu (n:=n) h false ([109] ++(ye [((n.id,n.acc.length+1),d)]).1))
theorem zcQ {n:zp}(h:vz n.store)(i:Int)(b:Nat):vz (zA n i b).1.store:=by
 unfold zA
 split
 ·exact h
 split
 ·exact h
 split
 ·exact Zu (n:={n with pax:=(zC n.pax i b).1}) h _ _
 ·exact Zu (n:={n with pax:=(zC n.pax i b).1}) h _ _
theorem zd4 {n:zp}(h:vz n.store)(i:Int)(b:Nat)(x:List UInt8):vz (yE n i b x).1.store:=by
 unfold yE
 split
 ·exact h
 split
 ·exact h
 ·exact Zu (n:={n with pax:=(vy n.pax i b x).1}) h _ _
theorem VR {n:zp}(h:vz n.store)(i:Int)(x:List UInt8):vz (ja n i x).1.store:=by
 unfold ja
 split
 ·exact h
 ·simp only
  split
  ·exact h
  split
  ·exact(yX _ _).cap h
  have hk:=Zu (n:={n with pax:=(zS n.pax i x).1}) h true (zS n.pax i x).2.1
  split
  ·exact hk
  ·exact(yX _ _).cap hk
theorem zbn {s:StD}{n:zp}(h:vz n.store):vz (yP n s).store:=by
 unfold yP;simp only;rw [Q3];have hr:=zcP h;exact(vC _ _).1.cap ((yX _ _).cap hr)
theorem zj5 {s:StD}{n:zp}(h:zbm s n)(x:zkz)(hb:x.b<18446744073709551616):zbm s (zcO s n x):=by
 obtain⟨⟨l,hi⟩,hc⟩:=h;obtain⟨l',hs⟩:=zbk hi x hb;refine⟨⟨l',hs.inv⟩,?_⟩;unfold zcO
 split
 ·exact Q6 hc _
 split
 ·exact zcQ hc _ _
 split
 ·exact zd4 hc _ _ _
 split
 ·exact VR hc _ _
 split
 ·unfold ZY;split
  ·exact hc
  ·split<;>exact hc
 split
 ·unfold zjY;split
  ·exact hc
  ·exact zj4 hc _
 split
 ·unfold VF;split<;>exact hc
 split
 ·exact zbn hc
 split
 ·exact VR hc _ _
 ·exact hc
theorem zd5(l:List (List UInt8)):(RR l).1.length<=l.length:=by
 suffices h:∀(l:List (List UInt8)) (q:List zy×xn),(l.foldl jV q).1.length<=q.1.length+l.length by simpa [RR] using h l ([],x9)
 intro l
 induction l with
 |nil=>intro q;simp
 |cons r l ih=>
  intro q;have h1:=ih (jV q r)
  have h2:(jV q r).1.length<=q.1.length+1:=by
   unfold jV
   cases r with
   |nil=>simp
   |cons k d=>
    simp only
    split
    ·rename_i h;rw [N1,h.2.2];omega
    ·simp
  rw [List.foldl_cons,List.length_cons];omega
theorem zj6(v:Int)(bad:List Int)(s:StD):∀(vals:List (List UInt8)),vQ (zba v bad s vals) vals.length:=by
 suffices h:∀(vals:List (List UInt8)) (L:zR) (k:Nat),vQ L k->vQ (vals.foldl (ql bad) L) (k+vals.length)by
  intro vals;have:=h vals (zh9 v s) 0 (zjz v s)
  rwa [Nat.zero_add] at this
 intro vals
 induction vals with
 |nil=>intro L k h;exact h
 |cons x vals ih=>
  intro L k h
  have h1:vQ (ql bad L x) (k+1):=by
   unfold ql
   split
   ·exact h.mono (by omega)
   ·exact Q2 h _ _
  have:=ih _ _ h1;rw [List.foldl_cons,List.length_cons,show k+(vals.length+1)=k+1+vals.length by omega];exact this
theorem zg4 {known:List (Int×List UInt8)}(hk:yp known){a:List (List UInt8)}(ha:∀(j:Nat)(x:List UInt8),a[j]?=some x->zD ((j:Int)+1) known=some x):a.length<=10000:=by
 rcases Nat.lt_or_ge 10000 a.length with h|h
 ·exfalso
  obtain⟨x,hx⟩:∃x,a[10000]?=some x:=⟨_,N3 h⟩;have:=hk _ _ (ha _ _ hx);omega
 ·exact h
theorem zbm.bounds {s:StD}{n:zp}(h:zbm s n):n.store.log.length<=1048576/\n.acc.length<=116508/\n.applied<=10000/\vQ n.loc n.applied:=by
 obtain⟨⟨l,hi⟩,h1,h2,h3⟩:=h;obtain⟨hok,tail,hl, -, -⟩:=hi.kept;obtain⟨vals,hv⟩:=hi.loc;have hr:=zd2 hok;have ha:=zd5 l;have hp:=hi.acc.length_le;have hlen:(recs l).length<=n.store.log.length:=by rw [hl,N1];omega
 refine⟨by omega,by omega,?_,?_⟩
 ·rw [← hv.1];exact zg4 (Q4 l) hv.2.2
 ·rw [hv.2.1,← hv.1];exact zj6 _ _ _ _
end
open Go Go.RowKit Go.Shelf Go.Extern.Stop Go.Stop Go.Extern
attribute [local go_sem] Oper.semAt_some zv zm
theorem zg5(B:Nat)(s:yb)(t:List Nat)(ow:Own)(w:World)(h:jp B s t ow w)(hl:s.log.length<=1073741824):
 Calls prog 177 #[.pointer (some ⟨B,0,none⟩)] w λe w'=>e=.returned (.int .i64 s.log.length)/\Below w.heap.size w w':=by
 obtain⟨lv,hB,hR,o1,o2⟩:=h;unfold xR at hB;obtain⟨ha,hc,rfl⟩:=hR.shape;have hwr:IntKind.i64.wrap (s.log.length:Int)=(s.log.length:Int):=by rw [N8];omega
 clear hR o1 o2
 go_enter func177,ntmps177
 go_wp2_with fail
 refine zd [O 0,O 1,O 2,O 3,O 4,O 5,O 6,O 7,O 8,O 9,O 10,O 11] none (λw'=>Blk w' B #[.slice ha s.log.length hc,.string ⟨#[]⟩,.int .i64 s.cap,.bool s.isCut,.int .i64 s.keep,.bool s.crashed] 155/\True) (by kernel_rfl) (by kernel_rfl) ⟨hB.drew,trivial⟩ ?_
 (repeat (refine za (v:=?_) rfl rfl (λw' h=>?_) (λK k=>?_);rotate_left;obtain⟨f1,_⟩:=h;have e1:=f1.cell;go_simp;(try with_reducible rfl);go_simp;refine k _ ?_;clear k K))
 refine ze ?_;go_wp2;go_ret
 exact⟨rfl,pbx⟩
theorem zcR(B:Nat)(s:yb)(t:List Nat)(ow:Own)(d:List UInt8)(w:World)(h:jp B s t ow w)(hc:vz s)(hd:d.length<=1073741000):
 Calls prog 176 #[.pointer (some ⟨B,0,none⟩),.string (bs d),.int .i64 s.log.length,.func (.func 178) #[.pointer (some ⟨B,0,none⟩)] #[]] w (Jz B (z6 s d).1 t ow w (.int .i64 (z6 s d).2)):=by
 obtain⟨lv,hB,hR,o1,o2⟩:=h;have h0:jp B s t ow w:=⟨lv,hB,hR,o1,o2⟩;unfold xR at hB;have e0:=hB.cell;have l0:=hB.lt;obtain⟨log,cap,isc,keep,cr⟩:=s;obtain⟨hc1,hc2,hc3⟩:=hc;simp only at hc1 hc2 hc3 e0;clear hR o1 o2;replace hB:=hid hB;replace h0:=hid h0
 cases cr
 ·have hrec:=λW=>zeQ d hd W
  obtain⟨⟨r,er⟩,hr⟩:∃x,zG d=x:=⟨_,rfl⟩;rw [hr] at hrec;unfold zcF at hrec;replace hrec:=hid hrec;have hsz:=zJ r
  have hwp:z6 ⟨log,cap,isc,keep,false⟩ d=if er≠0 then(⟨log,cap,isc,keep,false⟩,30)else if cap<log.length+r.length then(⟨log,cap,isc,keep,false⟩,30)else if isc=false then(⟨log++r,cap,isc,keep,false⟩,0)else(⟨log++r.take (min keep r.length).toNat,cap,false,0,true⟩,31):=by
   unfold z6;simp only [hr];rfl
  have hrl:r.length<=4109:=by
   have:r=(zG d).1:=by rw [hr]
   rw [this]
   rcases Nat.lt_or_ge 4096 d.length with h|h
   ·unfold zG;rw [if_pos h];simp
   ·rw [yt h];omega
  replace hr:=hid hr
  by_cases he:er=0
  ·subst he
   have t1:((0:Int) !=0)=false:=rfl;rw [if_neg (by simp)] at hwp;have hws:IntKind.i64.wrap ((log.length:Int)+((bs r).size:Int))=(log.length:Int)+r.length:=by rw [N8,hsz];omega
   by_cases hcap:cap<log.length+r.length
   ·rw [if_pos hcap] at hwp
    rw [hwp];have t2:decide (cap<(log.length:Int)+r.length)=true:=by simpa using hcap
    replace hwp:=hid hwp;replace hsz:=hid hsz
    go_enter func176,ntmps176
    go_wp2_with fail
    refine(hrec.out _).mono ?_;rintro e w1⟨rfl,hb1⟩;have e1:=(hB.out.call hb1).cell;have l1:=(hB.out.call hb1).lt;clear e0;go_wp2;go_ret
    exact⟨rfl,ow,zq.of_below t ow hb1,(jp.loc B _ t).below h0.out hb1⟩
   ·rw [if_neg hcap] at hwp
    have t2:decide (cap<(log.length:Int)+r.length)=false:=by simpa using hcap
    cases isc
    ·rw [if_pos rfl] at hwp
     rw [hwp];replace hwp:=hid hwp;have hap:=λW hS=>YQ B ⟨log,cap,false,keep,false⟩ t ow r (r.length:Int) W hS (by omega) (Int.le_refl _) (by simp only;omega)
     simp only [Int.toNat_natCast,List.take_length] at hap;replace hap:=hid hap
     go_enter func176,ntmps176
     go_wp2_with fail
     refine(hrec.out _).mono ?_;rintro e w1⟨rfl,hb1⟩;have e1:=(hB.out.call hb1).cell;have l1:=(hB.out.call hb1).lt;clear e0;go_wp2_with fail
     refine(hap.out _ ((jp.loc B _ t).below h0.out hb1)).mono ?_;rintro e w2⟨rfl,ow2,hs2,h2⟩;go_wp2;go_ret
     exact⟨rfl,ow2,(zq.of_below t ow hb1).trans hs2,h2⟩
    ·rw [if_neg (by simp)] at hwp
     rw [hwp];replace hwp:=hid hwp;obtain⟨m,hm⟩:∃m,min keep (r.length:Int)=m:=⟨_,rfl⟩;rw [hm];have hm0:0<=m:=by omega
     have hm1:m<=r.length:=by omega
     have hmin:min keep ((bs r).size:Int)=m:=by rw [hsz];exact hm
     have hap:=λW hS=>YQ B ⟨log,cap,true,keep,false⟩ t ow r m W hS hm0 hm1 (by simp only;omega)
     simp only at hap
     generalize r.take m.toNat=rt at*
     replace hap:=hid hap;replace hsz:=hid hsz;replace hm:=hid hm
     go_enter func176,ntmps176
     go_wp2_with fail
     refine(hrec.out _).mono ?_;rintro e w1⟨rfl,hb1⟩;have e1:=(hB.out.call hb1).cell;have l1:=(hB.out.call hb1).lt;clear e0;go_wp2_with fail
     refine(hap.out _ ((jp.loc B _ t).below h0.out hb1)).mono ?_;rintro e w2⟨rfl,ow2,hs2,⟨lv2,hB2,hR2,o12,o22⟩⟩;have hw:=λs' W'=>zcH (s':=s') (W':=W') hR2 hB2 o12 o22
     unfold xR at hB2 hw;simp only at hB2 hw;have f2:=hB2.frozen;have l2:=hB2.lt;have e2:=hB2.cell;clear e1 hR2 o12 o22;replace hw:=hid hw;replace hB2:=hid hB2;go_wp2;go_ret
     have hq:=hw.out ⟨log++rt,cap,false,0,true⟩ (((w2.setCell ⟨B,3,none⟩ (.bool false)).setCell ⟨B,4,none⟩ (.int .i64 0)).setCell ⟨B,5,none⟩ (.bool true)) ((((Mod.refl (λk=>k=B) w2).thenSet (p:=⟨B,3,none⟩) rfl _).thenSet (p:=⟨B,4,none⟩) rfl _).thenSet (p:=⟨B,5,none⟩) rfl _)
      (((hB2.out.set (o:=3) (.bool false)).set (o:=4) (.int .i64 0)).set (o:=5) (.bool true)) rfl
     exact⟨rfl,ow2,((zq.of_below t ow hb1).trans hs2).trans hq.1,hq.2⟩
  ·have t1:(er !=0)=true:=by simpa using he
   rw [if_pos he] at hwp;rw [hwp];replace hwp:=hid hwp;replace he:=hid he
   go_enter func176,ntmps176
   go_wp2_with fail
   refine(hrec.out _).mono ?_;rintro e w1⟨rfl,hb1⟩;go_wp2;go_ret
   exact⟨rfl,ow,zq.of_below t ow hb1,(jp.loc B _ t).below h0.out hb1⟩
 ·have hwp:z6 ⟨log,cap,isc,keep,true⟩ d=(⟨log,cap,isc,keep,true⟩,31):=by unfold z6;rw [if_pos rfl]
  rw [hwp];replace hwp:=hid hwp
  go_enter func176,ntmps176
  go_wp2;go_ret
  exact⟨rfl,ow,zq.refl _ _ _,h0.out⟩
theorem zcS(B:Nat)(s:yb)(t:List Nat)(ow:Own)(d:List UInt8)(w:World)(h:jp B s t ow w)(hc:vz s)(hd:d.length<=1073741000):
 Calls prog 137 #[.pointer (some ⟨B,0,none⟩),.string (bs d)] w (Jz B (z6 s d).1 t ow w (.int .i64 (z6 s d).2)):=by
 have hl:s.log.length<=1073741824:=by have:=hc.1;have:=hc.2.1;omega
 have hho:=λW hS=>zg5 B s t ow W hS hl
 have hwr:=λW hS=>zcR B s t ow d W hS hc hd
 generalize z6 s d=R at*
 replace hho:=hid hho;replace hwr:=hid hwr;replace h:=hid h;replace hc:=hid hc
 go_enter func137,ntmps137
 go_wp2_with fail
 refine zd [O 0,O 1,O 2,O 3,O 4,O 6,O 7,O 8,O 9,E 5,E 10,O 11] none (λw'=>True) (by kernel_rfl) (by kernel_rfl) trivial ?_
 (repeat (refine za (v:=?_) rfl rfl (λw' h=>?_) (λK k=>?_);rotate_left;obtain⟨f1,f2,f3,f4,f5,_⟩:=h;(try have e1:=f1.cell);(try have e2:=f2.cell);(try have e3:=f3.cell);(try have e4:=f4.cell);(try have e5:=f5.cell);go_simp;(try with_reducible rfl);go_simp;refine k _ ?_;clear k K))
 refine zc rfl (λK hK=>?_);go_wp2_with fail
 refine(hho.out _ ((jp.loc B s t).below h.out (pbx))).mono ?_;rintro e w1⟨rfl,hb1⟩;have hb1':Below w.heap.size w w1:=pbx;go_wp2;refine hK.out _ _ (λ_=>trivial) ?_;clear hK K;refine zc rfl (λK hK=>?_);go_wp2_with fail
 refine(hwr.out _ ((jp.loc B s t).below h.out hb1')).mono ?_;rintro e w2⟨rfl,ow2,hs2,h2⟩;go_wp2;refine hK.out _ _ (λ_=>trivial) ?_;clear hK K
 (repeat (refine za (v:=?_) rfl rfl (λw' h=>?_) (λK k=>?_);rotate_left;obtain⟨f1,f2,f3,f4,f5,_⟩:=h;(try have e1:=f1.cell);(try have e2:=f2.cell);(try have e3:=f3.cell);(try have e4:=f4.cell);(try have e5:=f5.cell);go_simp;(try with_reducible rfl);go_simp;refine k _ ?_;clear k K))
 refine ze ?_;go_wp2;go_ret
 exact⟨rfl,ow2,(zq.of_below t ow hb1').trans hs2,h2⟩
def vF(s:List UInt8):List (List UInt8)×Nat:=xq s.length s
theorem Qb:∀(n m:Nat)(s:List UInt8),s.length<=n->s.length<=m->xq n s=xq m s
 |0,0,s,_,_=>rfl
 |0,m+1,s,h,_=>by
  obtain rfl:s=[]:=N9 (by omega);rfl
 |n+1,0,s,_,h=>by
  obtain rfl:s=[]:=N9 (by omega);rfl
 |n+1,m+1,s,h1,h2=>by
  unfold xq
  by_cases h:(jm s).2=0
  ·rw [if_pos h,if_pos h]
  ·rw [if_neg h,if_neg h]
   have hs:=vV s;have:=Qb n m (s.drop (jm s).2) (by simp;omega) (by simp;omega);rw [this]
theorem ze4 {s:List UInt8}(h:(jm s).2=0):vF s=([],0):=by
 unfold vF
 cases hs:s.length with
 |zero=>rfl
 |succ n=>unfold xq;rw [if_pos h]
theorem ze5 {s:List UInt8}(h:(jm s).2≠0):vF s=((jm s).1::(vF (s.drop (jm s).2)).1,(jm s).2+(vF (s.drop (jm s).2)).2):=by
 have hz:=vV s;unfold vF
 cases hs:s.length with
 |zero=>omega
 |succ n=>
  rw [show xq (n+1) s=((jm s).1::(xq n (s.drop (jm s).2)).1,(jm s).2+(xq n (s.drop (jm s).2)).2)by rw [xq,if_neg h]];rw [Qb n (s.drop (jm s).2).length (s.drop (jm s).2) (by simp;omega) (N0 _)]
structure Qc(s:List UInt8)(ab gb:Nat)(W0:World)(l:List (List UInt8))(n:Nat)(v:Value)(X:Nat->Prop)(W:World):Prop where
 fr:Fr (λk=>k=ab∨k=gb) W0 X W
 ka:Blk W ab #[v] 107
 kg:Blk W gb #[.int .i64 (n:Nat)] 3
 row:Row W 9 1 v l.length (yD l)
 new:∀g,v.ownBlock=some g->W0.heap.size<=g/\¬X g
theorem Qc.stab {s:List UInt8}{ab gb:Nat}{W0:World}{l:List (List UInt8)}{n:Nat}{v:Value}{X X':Nat->Prop}{W W':World}(h:Qc s ab gb W0 l n v X W)(ha:ab<W0.heap.size)(hg:gb<W0.heap.size)
 (hm:Mod X W W') (hx:∀k,X' k->X k∨(W.heap.size<=k/\k<W'.heap.size)):Qc s ab gb W0 l n v X' W' where
 fr:=h.fr.step hm hx
 ka:=h.ka.kept (h.fr.block hm ha)
 kg:=h.kg.kept (h.fr.block hm hg)
 row:=h.row.mod hm (λg hg=>(h.new g hg).2)
 new:=λg hg=>⟨(h.new g hg).1,λhX=>by
  rcases hx g hX with h1|h1
  ·exact(h.new g hg).2 h1
  ·have:=h.row.lt hg;omega⟩
theorem VS {B:Nat}{w W:World}(h:Below B w W):Below B w W.drew:=h.drew
def Q7(s:List UInt8)(w:World)(e:Ending)(w':World):Prop:=
 ∃v,e=.returned (.tuple #[v,.int .i64 ((vF s).2:Nat)])/\Below w.heap.size w w'/\Src w' v 1 (vF s).1.length (yD (vF s).1)/\∀a l c,v=.slice (some a) l c->w.heap.size<=a.block
theorem Qd(s:List UInt8)(hl:s.length<=1073741824)(w:World):Calls prog 157 #[.string (bs s)] w (Q7 s w):=by
 refine zl func157 rfl ?_;simp only [ntmps157,R8,Nat.reduceAdd,Nat.reduceSub];go_wp2;go_step3;go_wp2;go_step3;go_wp2_with fail
 refine(zeP _ _).mono ?_;rintro e w1⟨rfl,rfl⟩;go_wp2_with fail
 obtain⟨W0,hW0⟩:∃W0,W0=(((w.alloc (.cells #[.slice none 0 0] 107)).alloc (.cells #[.int .i64 0] 3)).alloc (.cells #[.string (bs s)] 9)):=⟨_,rfl⟩;have hsz:W0.heap.size=w.heap.size+3:=by rw [hW0];simp
 have hb0:Below w.heap.size w W0:=by rw [hW0];exact pbx
 have ka0:Blk W0 w.heap.size #[.slice none 0 0] 107:=by rw [hW0];exact bkx
 have kg0:Blk W0 (w.heap.size+1) #[.int .i64 0] 3:=by rw [hW0];exact bkx
 have kc0:Blk W0 (w.heap.size+1+1) #[.string (bs s)] 9:=by rw [hW0];exact bkx
 rw [← hW0];clear hW0
 refine yT (gf:=257) (lb:=#[.pointer (some ⟨w.heap.size+1+1,0,none⟩)]) rfl (enters_of func257 (by kernel_rfl) rfl)
  (zcE (w.heap.size+1+1) s hl) (λ_=>rfl)
  (λr X W=>r.2=false/\∃l n v,vF s=(l++(vF r.1).1,n+(vF r.1).2)/\n+r.1.length=s.length/\9*l.length<=n/\Qc s w.heap.size (w.heap.size+1) W0 l n v X W)
  (λc X W=>c=.exit 0/\∃v,Qc s w.heap.size (w.heap.size+1) W0 (vF s).1 (vF s).2 v X W)
  (λr X X' W W' h hm hx=>by obtain⟨hr,l,n,v,h1,h2,h2',h3⟩:=h;exact⟨hr,l,n,v,h1,h2,h2',h3.stab (by omega) (by omega) hm hx⟩)
  (λc _ X X' W W' h hm hx=>by obtain⟨hc,v,h3⟩:=h;exact⟨hc,v,h3.stab (by omega) (by omega) hm hx⟩)
  (λr X W h=>by obtain⟨hr,l,n,v,h1,h2,h2',h3⟩:=h;exact kc0.mod h3.fr.2 (by omega))
  ⟨rfl,[],0,.slice none 0 0,by simp,by simp,by simp,Fr.refl _ _,ka0,kg0,z7 _ _ _,by simp [Value.ownBlock]⟩
  (λx=>[(6,.string (bs x.1)),(7,.int .i64 (x.2:Nat))]) ?assign ?body ?done ?stop
 case assign=>
  intro l' x W K hK;unfold zdY at hK⊢;rw [vB] at hK⊢
  gi_wp2
  exact hK
 case body=>
  rintro l'⟨r,b⟩⟨d,m⟩ X W⟨hb,l,n,v,hrf,hn,hnl,hI⟩⟨-,hx,hrl⟩ hXl _;simp only at hb hrf hn hx hrl;subst hb;unfold zdY;rw [vB];have hfs:=vV r;rw [← hx] at hfs;simp only at hfs
  by_cases hm:m=0
  ·subst hm
   have hz:=ze4 (s:=r) (by rw [← hx]);rw [hz] at hrf;have hrf':vF s=(l,n):=by simpa using hrf
   have hI':Qc s w.heap.size (w.heap.size+1) W0 (vF s).1 (vF s).2 v X W:=by rw [hrf'];exact hI
   clear hI hrf hrf';replace hx:=hid hx;replace hz:=hid hz
   gi_wp2
   exact⟨⟨rfl,v,hI'⟩,jB.refl _ _⟩
  ·have hz:=ze5 (s:=r) (by rw [← hx];exact hm)
   rw [← hx] at hz;simp only at hz;obtain⟨hfr,ka,kg,hrow,hnew⟩:=hI;have t0:((m:Int)==0)=false:=by simpa using hm
   have hw:IntKind.i64.wrap ((n:Int)+(m:Int))=((n+m:Nat):Int):=by rw [N8];omega
   have ea:=ka.cell;have eg:=kg.cell;have lg:=kg.lt;have la:=ka.lt;have hz0:=hfr.2.size;have hlt:l.length+1<=1073741824:=by omega
   have hva:∀g,v.ownBlock=some g->g≠w.heap.size/\g≠w.heap.size+1:=λg hg=>by have:=(hnew g hg).1;omega
   obtain⟨v',W3,hrun,hrow3,hgr,hown⟩:=zT zls (hrow.below ((N2 _ _).alloc (N0 _) (.cells #[.string (bs d)] 9))) (jM (n:=1) (size:=1) (cap:=1) (Blk.new (w:=W) (cs:=#[.string (bs d)]) (t:=9) rfl) rfl (N0 1)) (zgn [d]) hlt 107;have ka3:=(ka.alloc (.cells #[.string (bs d)] 9)).kept (hgr.block _ (by simp;omega) (λe=>(hva _ e.symm).1 rfl));have kg3:=(kg.alloc (.cells #[.string (bs d)] 9)).kept (hgr.block _ (by simp;omega) (λe=>(hva _ e.symm).2 rfl));have fa3:=ka3.frozen;have ea3:=ka3.cell;have la3:=ka3.lt;have eg3:=kg3.cell;have fg3:=kg3.frozen;have lg3:=kg3.lt;obtain⟨va,vn,vc,rfl⟩:=hrow.shape;obtain⟨sa,sm,sc,rfl⟩:=hrow3.shape;replace hx:=hid hx;replace hz:=hid hz;replace hrf:=hid hrf;replace hrow:=hid hrow;replace hrow3:=hid hrow3;replace hown:=hid hown;replace hnew:=hid hnew;replace hva:=hid hva;clear eg
   gi_wp2_with (gi_at_builtin
                refine jQ rfl _ _ _ rfl rfl rfl hrun ?_)
   have hm4:Mod (λk=>k=w.heap.size∨k=w.heap.size+1∨(Value.slice va vn vc).ownBlock=some k) W ((W3.setCell ⟨w.heap.size,0,none⟩ (.slice sa sm sc)).setCell ⟨w.heap.size+1,0,none⟩ (.int .i64 ((n:Int)+(m:Int)))):=
    ((((Mod.refl (λk=>k=w.heap.size∨k=w.heap.size+1∨(Value.slice va vn vc).ownBlock=some k) W).thenAlloc (.cells #[.string (bs d)] 9)).trans (Mod.grown (X:=λk=>k=w.heap.size∨k=w.heap.size+1∨(Value.slice va vn vc).ownBlock=some k) hgr (λk h=>.inr (.inr h))) (λ_ _ e=>e) (λ_ _ e=>e)).thenSet (p:=⟨w.heap.size,0,none⟩) (.inl rfl) _).thenSet (p:=⟨w.heap.size+1,0,none⟩) (.inr (.inl rfl)) _
   have hg5:∀g,(Value.slice sa sm sc).ownBlock=some g->((Value.slice va vn vc).ownBlock=some g∨g=W.heap.size+1):=λg hg=>by
    have:=hown.out;rw [hg] at this
    rcases this with h|h
    ·exact .inl h.symm
    ·right;simpa using h
   have hg6:∀g,(Value.slice sa sm sc).ownBlock=some g->W0.heap.size<=g/\¬X g:=λg hg=>by
    rcases hg5 g hg with h|h
    ·exact hnew.out g h
    ·subst h;exact⟨by omega,λhX=>by have:=(hfr.1 _ hX).2;omega⟩
   have hne:w.heap.size≠w.heap.size+1:=by omega
   refine⟨⟨rfl,l++ [d],n+m,?_,?_,?_,.slice sa sm sc,hfr.mod hm4 (λk hk h=>?_),?_,?_,?_,hg6⟩,jB.of_mod hm4 (λk hk hX h=>?_)⟩
   ·rw [hrf.out,hz.out];simp;omega
   ·simp;omega
   ·simp;omega
   ·rcases h with h|h|h
    ·exact .inl h
    ·exact .inr h
    ·have:=(hnew.out k h).1;omega
   ·exact(ka3.set (o:=0) _).other (p:=⟨w.heap.size+1,0,none⟩) hne _
   ·have:=(kg3.other (p:=⟨w.heap.size,0,none⟩) (Ne.symm hne) (.slice sa sm sc)).set (o:=0) (.int .i64 ((n:Int)+(m:Int)))
    rw [show((n+m:Nat):Int)=(n:Int)+(m:Int)by omega];exact this
   ·rw [N1,U2,YG]
    refine Row.kept (w:=W3) hrow3.out (λg hg=>?_);have:=(hg6 g hg).1;exact(N4 _ _ _ _ (show g≠w.heap.size+1 by omega)).trans (N4 _ _ _ _ (show g≠w.heap.size by omega))
   ·have:=hfr.1 k hX
    rcases h with h|h|h
    ·omega
    ·omega
    ·exact(hnew.out k h).2 hX
 case done=>
  rintro D r X W hD hXD hfin⟨hb, -⟩ hdef;rw [hb] at hfin
  cases hfin
 case stop=>
  rintro D c X W hD hXD⟨rfl,v,hI⟩ hdef;obtain⟨hfr,ka,kg,hrow,hnew⟩:=hI;have hbW:Below w.heap.size w W:=hb0.trans (hfr.below (by omega) (λk hk=>by omega));have hpost:∀v W',Below w.heap.size w W'->Src W' v 1 (vF s).1.length (yD (vF s).1)->(∀a l c,v=.slice (some a) l c->w.heap.size<=a.block)->Q7 s w (.returned (.tuple #[v,.int .i64 ((vF s).2:Nat)])) W':=λv W' h1 h2 h3=>⟨v,rfl,h1,h2,h3⟩
  generalize(vF s).1=l at*
  generalize(vF s).2=n at*
  have hns:∀g,v.ownBlock=some g->w.heap.size<=g:=λg hg=>by have:=(hnew g hg).1;omega
  replace hpost:=hid hpost
  rcases hrow.form with⟨rfl,hl0,hx0⟩|⟨g,cap,rfl,hc1,hc2⟩
  ·obtain rfl:l=[]:=N9 hl0
   clear hrow hfr hnew;go_wp2_with fail
   refine zd [O 0,O 1,O 2,O 3,O 4,O 5,O 6,O 7,O 8] none (λw'=>Blk w' w.heap.size #[.slice none 0 0] 107/\Blk w' (w.heap.size+1) #[.int .i64 (n:Nat)] 3/\True) (by kernel_rfl) (by kernel_rfl) ⟨ka.drew,kg.drew,trivial⟩ ?_
   (repeat (refine za (v:=?_) rfl rfl (λw' h=>?_) (λK k=>?_);rotate_left;obtain⟨f1,f2,_⟩:=h;have e1:=f1.cell;have e2:=f2.cell;go_simp;(try with_reducible rfl);go_simp;refine k _ ?_;clear k K))
   refine ze ?_;go_wp2;rw [Exit.noGoto_ret];refine z8 (D:=D) (v:=.tuple #[.slice none 0 0,.int .i64 (n:Nat)]) hdef (by simp [results,Tryz.results157,go_sem]) (hpost.out _ _ ?_ (zgj _ _) (λa l c h=>by cases h));exact zN (VS hbW) (by omega) _
  ·obtain⟨cur,hcur⟩:=hrow.type (g:=g) rfl
   have hgD:g≠D:=λe=>by subst e;rw [hdef] at hcur;cases hcur
   have hgw:=hns g rfl;have y0:(l.length:Int)<=cap:=by omega
   unfold maxLen at hc2;have y1:(cap:Int)<=9223372036854775807:=by omega
   have hsrc:Src W (.slice (some ⟨g,0,none⟩) l.length l.length) 1 l.length (yD l):=by
    have h:=hrow.src;refine⟨h.1,.inr ⟨g,0,l.length,rfl,N0 _,?_⟩⟩
    rcases h.2 with⟨h0, -⟩|⟨b',off',cap',h0, -,hr⟩
    ·cases h0
    ·cases h0;exact hr
   clear hrow hfr hnew;replace hsrc:=hid hsrc;go_wp2_with fail
   refine zd [O 0,O 1,O 2,O 3,O 4,O 5,O 6,O 7,O 8] none (λw'=>Blk w' w.heap.size #[.slice (some ⟨g,0,none⟩) l.length cap] 107/\Blk w' (w.heap.size+1) #[.int .i64 (n:Nat)] 3/\True) (by kernel_rfl) (by kernel_rfl) ⟨ka.drew,kg.drew,trivial⟩ ?_
   (repeat (refine za (v:=?_) rfl rfl (λw' h=>?_) (λK k=>?_);rotate_left;obtain⟨f1,f2,_⟩:=h;have e1:=f1.cell;have e2:=f2.cell;go_simp;(try with_reducible rfl);go_simp;refine k _ ?_;clear k K))
   refine ze ?_;go_wp2;rw [Exit.noGoto_ret];refine z8 (D:=D) (v:=.tuple #[.slice (some ⟨g,0,none⟩) l.length l.length,.int .i64 (n:Nat)]) hdef (by simp [results,Tryz.results157,go_sem]) (hpost.out _ _ ?_ ?_ (λa l c h=>?_))
   ·exact zN (VS hbW) (by omega) _
   ·exact Src.kept (w:=W) hsrc.out (λa l c h=>by cases h;exact U1 hgD)
   ·cases h;exact hgw
