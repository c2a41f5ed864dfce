/- PARTS OF THE PROOF. -/
import Derived.Test.YtofppfoioodblaaGreatDoorTC10
set_option maxRecDepth 8000
set_option maxHeartbeats 4000000
open Go.Proofs.Tryz
namespace Go.Proofs.YtofppfoioodblaaGreatDoor
section
open Go
theorem zce(w:zf)(d:Int)(s:List UInt8):w.notes.length<=(yB w d s).1.notes.length:=by
 unfold yB
 split
 ·exact N0 _
 simp
theorem Z9(w:zf)(f:y8):w.notes.length<=(vp w f).notes.length:=by
 unfold vp
 split
 ·exact zce _ _ _
 exact N0 _
theorem Xz(f:Nat->y8):∀(l:List Nat)(w:zf),w.notes.length<=(l.foldl (λw i=>vp w (f i)) w).notes.length
 | [],_=>N0 _
 |i::l,w=>Nat.le_trans (Z9 w (f i)) (Xz f l _)
theorem Ys(w:zf)(kind src inst:Int)(b:Nat)(more:List UInt8):w.notes.length<=(j9 w kind src inst b more).notes.length:=Xz (λi=>jn kind src i inst b more) _ w
theorem zcf(w:zf)(i:Nat)(f:y8)(inst:Int)(b:Nat)(more:List UInt8):w.notes.length<=(yZ w i f inst b more).notes.length:=by
 unfold yZ
 split
 ·exact Z9 _ _
 split
 ·simp only
  split
  ·exact Z9 (setNode w i _) _
  exact N0 _
 simp only
 split
 ·exact Z9 (setNode w i _) _
 exact N0 _
theorem Yt(w:zf)(i src:Nat)(inst:Int)(b:Nat)(more:List UInt8):w.notes.length<=(countPromise w i src inst b more).notes.length:=by
 unfold countPromise
 split
 ·exact N0 _
 split
 ·exact N0 _
 simp only
 split
 ·exact N0 _
 split
 ·exact N0 _
 refine Nat.le_trans ?_ (Ys _ _ _ _ _ _);exact N0 _
theorem XA(w:zf)(i src:Nat)(inst:Int)(b:Nat):w.notes.length<=(countVote w i src inst b).notes.length:=by
 unfold countVote
 split
 ·exact N0 _
 split
 ·exact N0 _
 simp only
 split
 ·exact N0 _
 refine Nat.le_trans ?_ (Ys _ _ _ _ _ _);exact N0 _
theorem zaQ(w:zf)(i:Nat)(f:y8):w.notes.length<=(yN w i f).notes.length:=by
 unfold yN
 split
 ·exact N0 _
 simp only
 split
 ·exact zcf _ _ _ _ _ _
 split
 ·exact Yt _ _ _ _ _ _
 split
 ·exact XA _ _ _ _ _
 split<;>exact N0 _
theorem zf7(w:zf):w.notes.length<=(xR w 0).1.notes.length+1:=by
 unfold xR;rw [if_neg (by omega)]
 split
 ·exact Nat.le_succ _
 rename_i id dst s hx
 have hl:(w.notes.eraseIdx (0:Int).toNat).length+1=w.notes.length:=by
  have:=(N6.1 hx).1;rw [List.length_eraseIdx_of_lt this];omega
 simp only
 split
 ·have:=zaQ {w with notes:=w.notes.eraseIdx (0:Int).toNat,hurt:=del id w.hurt} dst.toNat (zf4 s).1
  simp only at this⊢;omega
 simp only;omega
theorem zaR(w:zf)(d:Bool)(i:Nat):(tellOne w d i).notes=w.notes:=by
 unfold tellOne;simp only
 split
 ·split<;>rfl
 rfl
theorem JM(d:Bool):∀(l:List Nat)(w:zf),(l.foldl (λw i=>tellOne w d i) w).notes=w.notes
 | [],_=>rfl
 |i::l,w=>by rw [List.foldl_cons,JM d l,zaR]
theorem zf8(w:zf):(vq w).notes=w.notes:=by unfold vq;rw [JM,JM]
theorem zf9(w:zf):w.notes.length<=(vr w).notes.length+1:=by
 unfold vr;rw [zf8];exact zf7 w
def Seg:Nat->zf->Prop
 |0,_=>True
 |k+1,w=>w.notes.length≠0/\Seg k (vr w)
theorem Q4:∀(k:Nat)(w:zf),k<=w.notes.length->Seg k w
 |0,_,_=>trivial
 |k+1,w,h=>⟨by omega,Q4 k _ (by have:=zf9 w;omega)⟩
theorem Seg.add:∀ {a b:Nat} {w:zf},Seg a w->Seg b (jm a w)->Seg (a+b) w
 |0,b,w,_,h2=>by rw [Nat.zero_add];exact h2
 |a+1,b,w,h1,h2=>by
  rw [Nat.succ_add];exact⟨h1.1,Seg.add h1.2 h2⟩
theorem ZN {α:Type}(f:α->α):∀(js:List Nat)(ns:List α),js.Nodup->∀k:Nat,(js.foldl (λns j=>ns.modify j f) ns)[k]?=if k∈js then(ns[k]?).map f else ns[k]?
 | [],ns,_,k=>by simp
 |j::js,ns,h,k=>by
  obtain⟨h1,h2⟩:=List.nodup_cons.1 h;rw [List.foldl_cons,ZN f js _ h2 k,List.getElem?_modify]
  by_cases hk:k∈js
  ·have hjk:¬j=k:=λe=>h1 (by rw [e];exact hk)
   rw [if_pos hk,if_pos (U7 _ hk)]
   cases ns[k]?<;>simp [hjk]
  rw [if_neg hk]
  by_cases hjk:j=k
  ·subst hjk
   rw [if_pos (List.mem_cons_self ..)]
   cases ns[j]?<;>simp
  rw [if_neg (by simp [hk];exact λe=>hjk e.symm)]
  cases ns[k]?<;>simp [hjk]
theorem JN {α:Type}(f:α->α)(ns:List α):(List.range ns.length).foldl (λns j=>ns.modify j f) ns=ns.map f:=by
 apply List.ext_getElem?
 intro k;rw [ZN f _ _ List.nodup_range,List.getElem?_map]
 by_cases hk:k<ns.length
 ·rw [if_pos (List.mem_range.2 hk)]
 rw [if_neg (λh=>hk (List.mem_range.1 h)),List.getElem?_eq_none (by omega)];rfl
theorem XB(q:Int)(x:List UInt8):∀(js:List Nat)(A:List zr×List jN×List xV),(∀j∈js,j<A.2.1.length)->(js.foldl (xa q x) A).1=js.foldl (λns j=>ns.modify j (λm=>(jg m q x).1)) A.1/\(js.foldl (xa q x) A).2.1.length=A.2.1.length/\
 ∀k:Nat,((js.foldl (xa q x) A).2.1[k]?.getD yA).greatest=(A.2.1[k]?.getD yA).greatest
 | [],A,_=>⟨rfl,rfl,λ_=>rfl⟩
 |j::js,A,h=>by
  obtain⟨s,hs⟩:∃s,A.2.1[j]?=some s:=⟨_,N3 (h j (List.mem_cons_self ..))⟩;rw [List.foldl_cons,List.foldl_cons]
  cases hm:A.1[j]? with
  |none=>
   have hd:xa q x A j=A:=by unfold xa;rw [hm]
   have aa:A.1.modify j (λm=>(jg m q x).1)=A.1:=by
    apply List.ext_getElem?
    intro k;rw [List.getElem?_modify]
    by_cases hk:j=k
    ·subst hk;rw [hm];rfl
    cases A.1[k]?<;>simp [hk]
   rw [hd,aa];exact XB q x js A (λk hk=>h k (U7 _ hk))
  |some m=>
   have hd:xa q x A j=(A.1.set j (jg m q x).1,A.2.1.set j (JL s (jg m q x).1),A.2.2++Zi s j (jg m q x).1):=by unfold xa;rw [hm,hs]
   have aa:A.1.modify j (λm=>(jg m q x).1)=A.1.set j (jg m q x).1:=by
    apply List.ext_getElem?
    intro k;rw [List.getElem?_modify]
    by_cases hk:j=k
    ·subst hk
     rw [List.getElem?_set_self (N6.1 hm).1,hm];simp
    rw [List.getElem?_set_ne hk]
    cases A.1[k]?<;>simp [hk]
   rw [hd,aa];obtain⟨h1,h2,h3⟩:=XB q x js (A.1.set j (jg m q x).1,A.2.1.set j (JL s (jg m q x).1),A.2.2++Zi s j (jg m q x).1) (λk hk=>by simpa using h k (U7 _ hk));refine⟨h1,by rw [h2];simp,λk=>?_⟩;rw [h3 k]
   show((A.2.1.set j _)[k]?.getD yA).greatest=_
   by_cases hk:j=k
   ·subst hk
    rw [List.getElem?_set_self (N6.1 hs).1,hs];rfl
   rw [List.getElem?_set_ne hk]
variable {W:zf}{ns:List zr}{ss:List jN}{ld:List (Int×j8)}{tr:List xV}
def zia(m:zr)(b:Nat):j8:={inst:=yM m,ballot:=b,value:=(jX m).1,promises:=[],promised:=List.replicate 16 false,voted:=List.replicate 16 false,votes:=0,asked:=false,told:=false}
theorem Jz {ss:List jN}(hq:yp ss)(i b:Nat):yp (ss.set i {ss[i]?.getD yA with greatest:=b}):=λk=>by
 by_cases hk:i=k
 ·subst hk
  by_cases hl:i<ss.length
  ·rw [List.getElem?_set_self hl];exact hq i
  rw [List.set_eq_of_length_le (by omega)];exact hq i
 rw [List.getElem?_set_ne hk];exact hq k
theorem zga(s:StD)(hW:IsW W ns ss ld [] tr)(hq:yp ss){i b:Nat}{mi:zr}(hn:ns.length<=16)(hmi:ns[i]?=some mi)(hup:mi.down=false)
 (hb:jB (ss[i]?.getD yA).greatest i=(b,0)) (hb2:b<18446744073709551616) (hq2:yM mi<4294967296):
 IsW (doW s W ⟨2,i,0,0,0,[]⟩).1 ns (ss.set i {ss[i]?.getD yA with greatest:=b}) (put (i:Int) (zia mi b) ld) ((List.range ns.length).map λj=>⟨3,i,j,yM mi,b,[]⟩) tr:=by
 have hi:i<ns.length:=(N6.1 hmi).1;have ac:zo W i=mi:=by rw [hW.node,hmi];rfl
 have aa:jo W i=ss[i]?.getD yA:=hW.seat i
 have hd:(doW s W ⟨2,i,0,0,0,[]⟩).1=vq (j9 {setSeat W i {jo W i with greatest:=b} with leads:=put (i:Int) (zia mi b) W.leads} 3 i (yM mi:Nat) b []):=by
  unfold doW;rw [if_neg (by simp),if_neg (by rw [hW.nodes];simp;omega)];simp only;rw [if_neg (by simp)]
  show vq (yg W s ⟨2,i,0,0,0,[]⟩).1=_
  congr 1
  unfold yg;simp only;rw [if_neg (by omega),if_pos trivial];unfold yw;rw [Int.toNat_natCast,ac,hup,aa,hb];rfl
 have h1:IsW {setSeat W i {jo W i with greatest:=b} with leads:=put (i:Int) (zia mi b) W.leads} ns (ss.set i {ss[i]?.getD yA with greatest:=b}) (put (i:Int) (zia mi b) ld) [] tr:=by
  refine⟨hW.nodes,?_,by show put _ _ W.leads=_;rw [hW.leads],hW.notes,hW.hurt,hW.trace⟩
  show W.seats.set i {jo W i with greatest:=b} =_
  rw [aa,hW.seats]
 have h2:=h1.sendAll 3 i (yM mi) b [] (λj hj=>⟨by show 3<=7;omega,by show i<16;omega,by show j<16;omega,hq2,hb2,by simp⟩) (by simp;omega);have h3:=h2.seats;rw [hd,x8 (by show yp (j9 _ ((3:Nat):Int) _ _ _ _).seats;rw [h3];exact Jz hq i b)]
 simpa using h2
def zmt(q:Int)(b:Nat)(x:List UInt8)(m:zr):zr:=(jg (yS (zC m q b).1 q b x).1 q x).1
def zib(q:Int)(x:List UInt8)(ns:List zr)(ss:List jN)(tr:List xV):List zr×List jN×List xV:=(List.range ns.length).foldl (xa q x) (ns,ss,tr)
theorem zkc(s:StD)(hW:IsW W ns ss ld [] tr)(hq:yp ss)(hss:ss.length=ns.length){i b q:Nat}{x:List UInt8}{mi:zr}(hn:ns.length<=16)(hmi:ns[i]?=some mi)
 (hb:jB (ss[i]?.getD yA).greatest i=(b,0)) (hb2:b<18446744073709551616) (hqe:yM mi=q) (hq2:q<4294967296) (hxe:(jX mi).1=x) (hxl:x.length<=4000)
 (hp:∀m∈ns,m.down=false/\zE (q:Int) m.pax.known=none/\(zC m q b).2=((b,0,[]),0)/\(zC m q b).1.down=false/\zE (q:Int) (zC m q b).1.pax.known=none/\
  (yS (zC m q b).1 q b x).2=0/\(yS (zC m q b).1 q b x).1.down=false):
 ∃ld' ss' tr',(ss',tr')=(zib q x (ns.map λm=>(yS (zC m q b).1 q b x).1) (ss.set i {ss[i]?.getD yA with greatest:=b}) tr).2/\
  IsW (jm (5*ns.length) (doW s W ⟨2,i,0,0,0,[]⟩).1) (ns.map (zmt q b x)) ss' ld' [] tr'/\yp ss'/\ss'.length=ns.length/\
  (∀k:Nat,(ss'[k]?.getD yA).greatest=((ss.set i {ss[i]?.getD yA with greatest:=b})[k]?.getD yA).greatest)/\Seg (5*ns.length) (doW s W ⟨2,i,0,0,0,[]⟩).1:=by
 have hi:i<ns.length:=(N6.1 hmi).1;have ao:=(hp mi (List.mem_of_getElem? hmi)).1;have h0:=zga s hW hq hn hmi ao hb hb2 (by omega);rw [hqe] at h0
 generalize hW1:(doW s W ⟨2,i,0,0,0,[]⟩).1=W1 at h0⊢
 have ae:=Jz hq i b
 generalize hss1:ss.set i {ss[i]?.getD yA with greatest:=b} =ss1 at h0 ae⊢
 have ah:ss1.length=ns.length:=by rw [← hss1];simpa using hss
 have af:(List.range ns.length).Nodup:=List.nodup_range;have ad:∀j∈List.range ns.length,j<16:=λj hj=>by have:=List.mem_range.1 hj;omega
 have ac:∀j∈List.range ns.length,∃m,ns[j]?=some m/\m∈ns:=λj hj=>⟨_,N3 (List.mem_range.1 hj),List.getElem_mem _⟩
 have s1:=ze1 (i:=i) (q:=q) (b:=b) ae (by omega) hq2 hb2 (List.range ns.length) W1 ns [] af (λj hj=>by
  obtain⟨m,hm,aa⟩:=ac j hj;obtain⟨g1,g2,g3, -⟩:=hp m aa
  exact⟨ad j hj,m,hm,g1,g2,g3⟩) (by simp;omega) (by simpa using h0)
 rw [JN,List.length_range,List.nil_append] at s1;have n1:(ns.map λm=>(zC m q b).1).length=ns.length:=List.length_map _;have an:(ns.map λm=>(zC m q b).1)[i]?=some (zC mi q b).1:=by rw [List.getElem?_map,hmi];rfl
 have ai:=(hp mi (List.mem_of_getElem? hmi)).2.2.2.1
 obtain⟨al,l2,k1,k2,k3,k4,k5,k6,k7,s2⟩:=promises (ns:=ns.map λm=>(zC m q b).1) (i:=i) (q:=q) (b:=b) (x:=x) ae (by omega) hq2 hb2 hxl (by rw [n1];exact hn) an ai (List.range ns.length) (jm ns.length W1) _ (zia mi b) [] (ya _ _ _)
  (by show((yM mi:Nat):Int)=_;rw [hqe]) rfl hxe rfl (by rw [n1];show 0+_=_;simp) (by show 2*0<=_;omega) (by rw [n1];omega) (λv hv=>by cases hv) (λk hk=>by
   show((List.replicate 16 false)[k]?).getD false=false
   rw [List.getElem?_replicate,if_pos (ad k hk)];rfl) af ad (by simp;omega) (by simpa using s1)
 rw [List.length_range,List.nil_append,n1] at s2
 have s3:=zh9 (i:=i) (q:=q) (b:=b) (x:=x) ae (by omega) hq2 hb2 (by omega) (List.range ns.length) (jm ns.length (jm ns.length W1)) _ [] af (λj hj=>by
  obtain⟨m,hm,aa⟩:=ac j hj;obtain⟨-, -, -,g4,g5,g6, -⟩:=hp m aa
  exact⟨ad j hj,(zC m q b).1,by rw [List.getElem?_map,hm];rfl,g4,g5,g6⟩) (by simp;omega) (by simpa using s2)
 have e3:=JN (λm=>(yS m q b x).1) (ns.map λm=>(zC m q b).1);rw [n1] at e3;rw [e3,List.length_range,List.nil_append,List.map_map] at s3
 generalize hns2:ns.map ((λm=>(yS m q b x).1)∘ λm=>(zC m q b).1)=ns2 at s3
 have n2:ns2.length=ns.length:=by rw [← hns2];exact List.length_map _
 have am:ns2[i]?=some (yS (zC mi q b).1 q b x).1:=by rw [← hns2,List.getElem?_map,hmi];rfl
 have ag:=(hp mi (List.mem_of_getElem? hmi)).2.2.2.2.2.2
 obtain⟨aj,s4⟩:=ze3 (ns:=ns2) (i:=i) (q:=q) (b:=b) (x:=x) ae (by omega) hq2 hb2 hxl (by rw [n2];exact hn) am ag (List.range ns.length) (jm ns.length (jm ns.length (jm ns.length W1))) al l2 [] k1
  k2 k3 k4 (by rw [k5];rfl) (by rw [k7,n2];show 0+_=_;simp) (by rw [k7];show 2*0<=_;omega) (by rw [n2];omega) (λk hk=>by
   rw [k6]
   show((List.replicate 16 false)[k]?).getD false=false
   rw [List.getElem?_replicate,if_pos (ad k hk)];rfl) af ad (by simp;omega) (by simpa using s3)
 rw [List.length_range,List.nil_append,n2] at s4
 obtain⟨s5,ap⟩:=ze2 (ld:=aj) (i:=i) (q:=q) (b:=b) (x:=x) (by omega) hq2 hb2 (by omega) (List.range ns.length) (jm ns.length (jm ns.length (jm ns.length (jm ns.length W1)))) (ns2,ss1,tr) [] ae af (λj hj=>by
  obtain⟨m,hm,aa⟩:=ac j hj;obtain⟨-, -, -, -, -, -,g7⟩:=hp m aa
  exact⟨ad j hj,(yS (zC m q b).1 q b x).1,ss1[j]'(by rw [ah];exact List.mem_range.1 hj),by show ns2[j]?=_;rw [← hns2,List.getElem?_map,hm];rfl,N3 _,g7⟩) (by simpa using s4)
 obtain⟨d1,d2,d3⟩:=XB q x (List.range ns.length) (ns2,ss1,tr) (λj hj=>by rw [ah];exact List.mem_range.1 hj);have e5:=JN (λm=>(jg m q x).1) ns2;rw [n2] at e5;rw [d1,List.length_range,e5] at s5;subst hns2;rw [List.map_map] at s5
 have ak:∀w,jm (5*ns.length) w=jm ns.length (jm ns.length (jm ns.length (jm ns.length (jm ns.length w)))):=λw=>by
  rw [show 5*ns.length=ns.length+(ns.length+(ns.length+(ns.length+ns.length)))by omega,qR,qR,qR,qR]
 refine⟨aj,_,_,?_,by rw [ak];exact s5,ap,by rw [d2];exact ah,d3,?_⟩
 ·unfold zib
  rw [List.length_map];rfl
 have g0:Seg ns.length W1:=Q4 _ _ (by rw [h0.len];simp);have g1:Seg ns.length (jm ns.length W1):=Q4 _ _ (by rw [s1.len];simp);have g2:Seg ns.length (jm ns.length (jm ns.length W1)):=Q4 _ _ (by rw [s2.len];simp);have g3:Seg ns.length (jm ns.length (jm ns.length (jm ns.length W1))):=Q4 _ _ (by rw [s3.len];simp);have g4:Seg ns.length (jm ns.length (jm ns.length (jm ns.length (jm ns.length W1)))):=Q4 _ _ (by rw [s4.len];simp);rw [show 5*ns.length=ns.length+(ns.length+(ns.length+(ns.length+ns.length)))by omega];exact g0.add (g1.add (g2.add (g3.add g4)))
end
section
open Go
def jq(j:Nat)(d:List UInt8)(t k:Nat):List zA:=(List.range' t k).map λc=>(((j:Int),c+1),d)
theorem YZ(j:Nat)(d:List UInt8)(t:Nat):jq j d t 0=[]:=rfl
theorem vt(j:Nat)(d:List UInt8)(t k:Nat):jq j d t (k+1)=(((j:Int),t+1),d)::jq j d (t+1) k:=by
 unfold jq;rw [List.range'_succ];rfl
theorem je(j:Nat)(d:List UInt8)(t k:Nat):(jq j d t k).length=k:=by simp [jq]
theorem xI(j:Nat)(d:List UInt8)(t k l:Nat):jq j d t (k+l)=jq j d t k++jq j d (t+k) l:=by
 unfold jq;rw [← List.map_append,List.range'_append_1]
theorem zgb(j:Nat)(d:List UInt8)(t k l:Nat):(jq j d t k).take l=jq j d t (min l k):=by
 rcases Nat.le_total l k with h|h
 ·obtain⟨r,rfl⟩:=Nat.exists_eq_add_of_le h
  rw [Nat.min_eq_left h,xI];exact List.take_left' (je j d t l)
 rw [Nat.min_eq_right h,List.take_of_length_le (by rw [je];exact h)]
theorem Zj {j:Nat}(hj:j<16){d:List UInt8}(hd:d.length<=1000){t k:Nat}(ht:t+k<=1000000):∀m∈jq j d t k,zx m=true:=λm hm=>by
 obtain⟨c,hc,rfl⟩:=List.mem_map.1 hm;have:=List.mem_range'_1.1 hc;simp only [zx,Bool.and_eq_true,decide_eq_true_eq];omega
theorem zic {m:zA} :∀ {l:List zA},(∀x∈l.head?,ltM m x=true)->zj2 m l=m::l
 | [],_=>rfl
 |x::l,h=>by unfold zj2;rw [if_pos (h x rfl)]
theorem Q5(j:Nat)(d:List UInt8):∀(k t:Nat),Zf (jq j d t k)=jq j d t k
 |0,t=>rfl
 |k+1,t=>by
  rw [vt];have ih:=Q5 j d k (t+1);unfold Zf at ih⊢;rw [List.foldr_cons,ih];refine zic (λx hx=>?_)
  cases k with
  |zero=>cases hx
  |succ k=>
   rw [vt] at hx
   cases hx
   simp [ltM]
theorem zaS {d:List UInt8}(hd:d.length<=100):∀(l:List zA),(∀m∈l,m.2=d)->(l.flatMap jr).length<=109*l.length
 | [],_=>by simp
 |m::l,h=>by
  have ih:=zaS hd l (λx hx=>h x (U7 _ hx));rw [List.flatMap_cons,N1,v8,h m (List.mem_cons_self ..),List.length_cons];omega
theorem JO {d:List UInt8}(hd:d.length<=100){l:List zA}(hl:l.length<=8)(hr:∀m∈l,zx m=true)(he:∀m∈l,m.2=d):(jC ⟨1,1,0,l⟩).2=0:=by
 have hp:j0 l=([UInt8.ofNat (l.length % 256)] ++l.flatMap jr,0):=by
  unfold j0;rw [if_neg (by omega),if_pos (List.all_eq_true.2 hr)]
 have aa:=zaS hd l he;unfold jC;rw [if_neg (by simp [qf])];rw [if_neg (by rw [hp];simp)];rw [if_neg (by rw [hp];simp only [N1,List.length_cons,List.length_nil,Zg];omega)]
theorem XC {d:List UInt8}(hd:d.length<=100){era:ZA}(he:era.1=1):∀(l p:List zA)(r:List UInt8×Bool),p.length+l.length<=8->(∀m∈p++l,zx m=true)->(∀m∈p++l,m.2=d)->
 yv era p l r=if l=[] then r else ZK ⟨1,1,0,p++l⟩
 | [],p,r,_,_,_=>by unfold yv;rfl
 |m::l,p,r,h,hr,hm=>by
  have hmem:∀x,x∈p++ [m] ->x∈p++m::l:=λx hx=>by
   rcases List.mem_append.1 hx with h|h
   ·exact List.mem_append.2 (.inl h)
   exact List.mem_append.2 (.inr (by simpa using .inl (by simpa using h)))
  have hok:(ZK ⟨1,era.1,0,p++ [m]⟩).2=true:=by
   rw [he];unfold ZK;rw [JO hd (by simp at h⊢;omega) (λx hx=>hr x (hmem x hx)) (λx hx=>hm x (hmem x hx))];rfl
  unfold yv;rw [if_pos hok,if_neg (by simp)];rw [XC hd he l (p++ [m]) _ (by simp at h⊢;omega) (by rw [List.append_assoc];exact hr) (by rw [List.append_assoc];exact hm)]
  by_cases hl:l=[]
  ·rw [if_pos hl,hl,he]
  rw [if_neg hl,List.append_assoc];rfl
def Jl(v:Int)(s:StD)(tk:List Nat)(cnt:Int)(log log2:List zA):zP:={fold:={book:={tk:=tk,log:=log,ws:=[] },eras:=[(1,v,0)],count:=cnt,sw:=false},st:=s,blk:=false,held:=[],log:=log2}
theorem Vv {j:Nat}(hj:j<16){d:List UInt8}(hd:d.length<=1000):∀(k t:Nat)(tk:List Nat)(log:List zA),tk.length=16->tk[j]?=some t->t+k<=1000000->
 zY {tk:=tk,log:=log,ws:=[] } (jq j d t k)=({tk:=tk.set j (t+k),log:=log++jq j d t k,ws:=[] },jq j d t k)
 |0,t,tk,log,hl,ht,_=>by
  rw [YZ];unfold zY
  have:tk.set j (t+0)=tk:=by
   apply List.ext_getElem?
   intro i
   by_cases hi:j=i
   ·subst hi;rw [List.getElem?_set_self (by omega),ht];rfl
   rw [List.getElem?_set_ne hi]
  rw [this,List.append_nil]
 |k+1,t,tk,log,hl,ht,hk=>by
  rw [vt];unfold zY;have hr:zx (((j:Int),t+1),d)=true:=by simp only [zx,Bool.and_eq_true,decide_eq_true_eq];omega
  have aa:xL {tk:=tk,log:=log,ws:=[] } (((j:Int),t+1),d)=({tk:=tk.set j (t+1),log:=log++ [(((j:Int),t+1),d)],ws:=[] },[(((j:Int),t+1),d)],0):=by
   have ac:Jk {tk:=tk,log:=log,ws:=[] } (j:Int)=t+1:=by
    unfold Jk;rw [if_pos (by simp [vM];omega),Int.toNat_natCast,ht];simp only [Option.getD_some];omega
   unfold xL;rw [if_neg (by rw [hr];simp),if_neg (by rw [ac];simp)];simp only [zX,qd,del,List.length_nil,List.foldl_cons,List.foldl_nil,Int.toNat_natCast]
  rw [aa];simp only;have ih:=Vv hj hd k (t+1) (tk.set j (t+1)) (log++ [(((j:Int),t+1),d)]) (by simpa using hl) (List.getElem?_set_self (by omega)) (by omega);rw [ih];simp only [List.set_set,List.append_assoc,List.cons_append,List.nil_append];rw [show t+1+k=t+(k+1)by omega]
theorem zgc {v:Int}{s:StD}{j:Nat}(hj:j<16){d:List UInt8}(hd:d.length<=100){t k:Nat}(hk:k<=8)(ht:t+k<=1000000){tk:List Nat}(hl:tk.length=16)(htk:tk[j]?=some t)(cnt:Int)(log log2:List zA)(b:Bool):
 yk (Jl v s tk cnt log log2) ⟨1,1,0,jq j d t k⟩ b=(Jl v s (tk.set j (t+k)) (cnt+1) (log++jq j d t k) (log2++jq j d t k),jq j d t k,0):=by
 have hr:=Zj hj (d:=d) (by omega) ht;have hm:∀m∈jq j d t k,m.2=d:=λm hm=>by obtain⟨c, -,rfl⟩:=List.mem_map.1 hm;rfl
 have aa:=JO hd (by rw [je];exact hk) hr hm
 have hA:j4 (Jl v s tk cnt log log2).fold ⟨1,1,0,jq j d t k⟩=({book:={tk:=tk.set j (t+k),log:=log++jq j d t k,ws:=[] },eras:=[(1,v,0)],count:=cnt+1,sw:=false},jq j d t k,false,0):=by
  unfold j4;rw [if_neg (by simp [Js,aa]),if_neg (by simp [vC,Jl]),if_pos rfl];have ac:=Vv hj (d:=d) (by omega) k t tk log hl htk ht;unfold Jl;simp only;rw [ac]
 unfold yk;rw [hA];unfold zjz qL yK;simp [Jl]
structure Jm(j:Nat)(d:List UInt8)(t a:Nat)(p:xr):Prop where
 waits:p.waits=(jq j d t (a - t)).map λm=>(m.1,m)
 done:∀c,(zE ((j:Int),c+1) p.done).isSome=decide (c<t)
theorem Q6 {K V:Type} [DecidableEq K](i:K):∀(l:List (K×V)),(∀x∈l,x.1≠i)->del i l=l
 | [],_=>rfl
 |(a,b)::l,h=>by
  unfold del;rw [if_neg (λe=>h (a,b) (List.mem_cons_self ..) e.symm),Q6 i l (λx hx=>h x (U7 _ hx))]
theorem zdO {i j:Nat}(hij:i≠j)(d:List UInt8)(c t k:Nat):∀x∈(jq j d t k).map λm=>(m.1,m),x.1≠((i:Int),c):=λx hx=>by
 obtain⟨m,hm,rfl⟩:=List.mem_map.1 hx;obtain⟨e, -,rfl⟩:=List.mem_map.1 hm;intro h;have:=congrArg Prod.fst h;simp only at this;omega
theorem Jm.other {i j:Nat}(hij:i≠j){d:List UInt8}{t a:Nat} :∀(l:List zA)(p:xr),Jm j d t a p->(∀m∈l,m.1.1=(i:Int))->Jm j d t a (l.foldl yY p)
 | [],p,h,_=>h
 |m::l,p,h,hm=>by
  rw [List.foldl_cons];refine Jm.other hij l _ ?_ (λx hx=>hm x (U7 _ hx));obtain⟨⟨o,c⟩,e⟩:=m;have ho:o=(i:Int):=hm _ (List.mem_cons_self ..);subst ho;unfold yY;simp only
  split
  ·exact h
  refine⟨?_,λc'=>?_⟩
  ·show del _ p.waits=_
   rw [h.waits];exact Q6 _ _ (zdO hij d c t (a - t))
  show(zE _ (put _ () p.done)).isSome=_
  rw [yE,if_neg (λe=>by have:=congrArg Prod.fst e;simp only at this;omega)];exact h.done c'
theorem Jm.own {j:Nat}{d:List UInt8}{a:Nat} :∀(k t:Nat)(p:xr),Jm j d t a p->t+k<=a->Jm j d (t+k) a ((jq j d t k).foldl yY p)
 |0,t,p,h,_=>h
 |k+1,t,p,h,hk=>by
  rw [vt,List.foldl_cons]
  have h1:Jm j d (t+1) a (yY p (((j:Int),t+1),d)):=by
   unfold yY;simp only;rw [if_neg (by rw [h.done t];simp)];refine⟨?_,λc=>?_⟩
   ·show del _ p.waits=_
    rw [h.waits,show a - t=(a - (t+1))+1 by omega,vt,List.map_cons];unfold del;rw [if_pos rfl]
   show(zE _ (put _ () p.done)).isSome=_
   rw [yE]
   by_cases hc:c=t
   ·subst hc;rw [if_pos rfl];simp
   rw [if_neg (λe=>hc (by have:=congrArg Prod.snd e;simp only at this;omega)),h.done c]
   exact decide_eq_decide.2 (by omega)
  have:=Jm.own k (t+1) _ h1 (by omega)
  rwa [show t+1+k=t+(k+1)by omega] at this
theorem ZO {n:zr}(h1:n.store.crashed=false)(h2:n.store.isCut=false)(h3:n.store.cap=262144){d:List UInt8}(hd:d.length<=4096)(hr:n.store.log.length+d.length+9<=262144)(part:Bool):
 j7 n part d=({n with store:={n.store with log:=n.store.log++(zH d).1}},0):=by
 have hw:zT n.store d=({n.store with log:=n.store.log++(zH d).1},0):=by
  unfold zT;rw [if_neg (by rw [h1];simp),if_neg (by rw [qj hd];simp),if_neg (by rw [h3,jS hd];omega),if_pos h2]
 unfold j7;rw [hw];simp
structure qS(d:List UInt8)(k:Nat)(L:zP)(room j t a:Nat)(m:zr):Prop where
 ide:m.id=(j:Int)
 bad:m.bad=[]
 up:m.down=false
 wanted:m.wanted=0
 kno:∀q:Int,(k:Int)<q->zE q m.pax.known=none
 vot:∀q:Int,(k:Int)<q->zE q m.pax.votes=none
 applied:m.applied=k
 loc:m.loc=L
 crashed:m.store.crashed=false
 isCut:m.store.isCut=false
 cap:m.store.cap=262144
 room:m.store.log.length+room<=262144
 acc:m.acc=jq j d 0 a
 offered:m.offered=a
 pool:Jm j d t a m.pool
 ta:t<=a
variable {d:List UInt8}{k room j t a:Nat}{L:zP}{m:zr}
theorem qS.next(h:qS d k L room j t a m):yM m=k+1:=by
 unfold yM;rw [h.applied];unfold Jy;rw [h.kno _ (by omega)];rfl
def ZP(v:Int):Nat:=if v=1 then 1 else 8
def qx(j:Nat)(d:List UInt8)(t c:Nat):List UInt8:=(jC ⟨1,1,0,jq j d t c⟩).1
theorem VV(hj:j<16)(hd:d.length<=100){c:Nat}(hc:c<=8)(ht:t+c<=1000000):(jC ⟨1,1,0,jq j d t c⟩).2=0:=
 JO hd (by rw [je];exact hc) (Zj hj (d:=d) (by omega) ht) (λm hm=>by obtain⟨c, -,rfl⟩:=List.mem_map.1 hm;rfl)
theorem zcg(hj:j<16)(hd:d.length<=100){c:Nat}(hc:c<=8)(ht:t+c<=1000000):(qx j d t c).length<=900:=by
 have h1:=(Xp (VV hj hd hc ht)).2.2.1;have h2:=zdF (Xp (VV hj hd hc ht)).2.1;have h3:=zaS hd (jq j d t c) (λm hm=>by obtain⟨c, -,rfl⟩:=List.mem_map.1 hm;rfl);rw [je] at h3;unfold qx;rw [h1,h2.2.2];simp only [N1,List.length_cons,List.length_nil,Zg];omega
theorem zch(hj:j<16)(hd:d.length<=100){c:Nat}(hc:c<=8)(ht:t+c<=1000000):jz (qx j d t c)=(⟨1,1,0,jq j d t c⟩,0):=zaJ (VV hj hd hc ht) (by show 1<_;omega)
theorem qS.proposal {v:Int}{s:StD}{tk:List Nat}{cnt:Int}{log log2:List zA}(h:qS d k (Jl v s tk cnt log log2) room j t a m)(hv:known v=true)(hj:j<16)(hd:d.length<=100)(ha:a<=1000000):
 jX m=if a - t=0 then([],false)else(qx j d t (min (ZP v) (a - t)),true):=by
 have ae:=h.ta;unfold jX;rw [if_neg (by rw [h.up];simp),if_neg (by rw [h.loc];simp [Jl]),if_neg (by rw [h.wanted];simp)]
 have aa:(if(if known (vC m.loc.fold.eras).2.1 then(if(vC m.loc.fold.eras).2.1=1 then(1:Int)else 2)else 0)=1 then 1 else 8)=ZP v:=by
  rw [h.loc]
  show(if(if known v then(if v=1 then(1:Int)else 2)else 0)=1 then 1 else 8)=ZP v
  rw [if_pos hv];unfold ZP
  by_cases h1:v=1
  ·rw [if_pos h1,if_pos h1,if_pos rfl]
  rw [if_neg h1,if_neg h1,if_neg (by omega)]
 have af:ZP v<=8:=by unfold ZP;split<;>omega
 have hb:ZI m.pool (ZP v)=jq j d t (min (ZP v) (a - t)):=by
  unfold ZI;rw [h.pool.waits,List.map_map];rw [show((λx:MId×zA=>x.2)∘ λm:zA=>(m.1,m))=id from rfl,List.map_id,Q5,zgb]
 rw [aa,hb];have he:(vC m.loc.fold.eras).1=1:=by rw [h.loc];rfl
 have ad:min (ZP v) (a - t)<=8:=by omega
 have ac:t+min (ZP v) (a - t)<=1000000:=by omega
 rw [XC (d:=d) hd he _ [] _ (by rw [je];simpa using ad) (by simpa using Zj hj (d:=d) (by omega) ac) (λx hx=>by
  obtain⟨c, -,rfl⟩:=List.mem_map.1 (show x∈jq j d t (min (ZP v) (a - t))by simpa using hx);rfl)]
 have ag:1<=ZP v:=by unfold ZP;split<;>omega
 by_cases h0:a - t=0
 ·rw [if_pos h0,if_pos (by rw [h0,Nat.min_zero];rfl)]
 rw [if_neg h0,if_neg (λe=>by have:=congrArg List.length e;rw [je] at this;simp only [List.length_nil] at this;omega)]
 rw [List.nil_append];unfold ZK qx;rw [VV hj hd ad ac];rfl
theorem zid {p:xr}{l:List zA}(h:∀m∈l,zx m=true):JH p l=l.foldl yY p:=by
 unfold JH;rw [if_pos (List.all_eq_true.2 h)]
theorem xu(kind:UInt8)(i:Int)(more:List UInt8):(xO kind i more).length=5+more.length:=by
 unfold xO;simp only [N1,List.length_cons,List.length_nil,Zg]
theorem qS.led {v:Int}{s:StD}{tk:List Nat}{cnt:Int}{log log2:List zA}(h:qS d k (Jl v s tk cnt log log2) (room+2000) j t a m)(hd:d.length<=100)(hk:k<10000){b:Nat}(hb:1<=b)
 {i ti c:Nat} (hi:i<16) (htl:tk.length=16) (hti:tk[i]?=some ti) (htj:tk[j]?=some t) (hc:c<=8) (htc:ti+c<=1000000) (hca:i=j->t+c<=a):
 (m.down=false/\zE ((k+1:Nat):Int) m.pax.known=none/\(zC m ((k+1:Nat):Int) b).2=((b,0,[]),0)/\(zC m ((k+1:Nat):Int) b).1.down=false/\zE ((k+1:Nat):Int) (zC m ((k+1:Nat):Int) b).1.pax.known=none/\
  (yS (zC m ((k+1:Nat):Int) b).1 ((k+1:Nat):Int) b (qx i d ti c)).2=0/\(yS (zC m ((k+1:Nat):Int) b).1 ((k+1:Nat):Int) b (qx i d ti c)).1.down=false)/\
 qS d (k+1) (Jl v s (tk.set i (ti+c)) (cnt+1) (log++jq i d ti c) (log2++jq i d ti c)) room j (if i=j then ti+c else t) a (zmt ((k+1:Nat):Int) b (qx i d ti c) m):=by
 have ae:zR ((k+1:Nat):Int)=true:=by simp [zR];omega
 have a6:=zcg hi hd hc htc;have am:=zch hi hd hc htc;have a1:=λb=>zgc (v:=v) (s:=s) hi hd hc htc htl hti cnt log log2 b
 have a2:=Zj hi (d:=d) (by omega) htc;obtain⟨x,hx⟩:∃x,qx i d ti c=x:=⟨_,rfl⟩;rw [hx] at a6 am⊢;obtain⟨q,hq⟩:∃q:Int,((k+1:Nat):Int)=q:=⟨_,rfl⟩;have an:(k:Int)<q:=by omega
 rw [hq] at ae⊢;have ax:=h.room
 have hp:zC m q b=({m with pax:={m.pax with votes:=put q (b,0,[]) m.pax.votes},store:={m.store with log:=m.store.log++(zH (xO 112 q (le8 b))).1}},(b,0,[]),0):=by
  have ar:zO m.pax q=(0,0,[]):=by unfold zO;rw [h.vot q an];rfl
  have a9:yu (0,0,[]) b=((b,0,[]),0):=by
   unfold yu;rw [if_neg (by simp [yn];omega),if_neg (by simp;omega)]
  have a4:zD m.pax q b=({m.pax with votes:=put q (b,0,[]) m.pax.votes},(b,0,[]),xO 112 q (le8 b),0):=by
   unfold zD;rw [if_neg (by rw [ae];simp),ar,a9,if_neg (by simp)]
  unfold zC;rw [if_neg (by rw [h.up];simp),a4];simp only;rw [if_neg (by simp),ZO (n:={m with pax:={m.pax with votes:=put q (b,0,[]) m.pax.votes}}) h.crashed h.isCut h.cap (by rw [xu,qE];omega) (by rw [xu,qE];show m.store.log.length+_+_<=_;omega) true];simp
 have l1:(zH (xO 112 q (le8 b))).1.length=22:=by rw [jS (by rw [xu,qE];omega),xu,qE]
 obtain⟨m1,aa⟩:∃m1,m1=({m with pax:={m.pax with votes:=put q (b,0,[]) m.pax.votes},store:={m.store with log:=m.store.log++(zH (xO 112 q (le8 b))).1}} :zr):=⟨_,rfl⟩;rw [← aa] at hp;have r1:m1.store.log.length=m.store.log.length+22:=by rw [aa];show(m.store.log++_).length=_;rw [N1,l1]
 have ah:yS m1 q b x=({m1 with pax:={m1.pax with votes:=put q (b,b,x) m1.pax.votes},store:={m1.store with log:=m1.store.log++(zH (xO 118 q (le8 b++x))).1}},0):=by
  have ar:zO m1.pax q=(b,0,[]):=by
   unfold zO;rw [aa]
   show(zE q (put q (b,0,[]) m.pax.votes)).getD _=_
   rw [ya];rfl
  have a3:YV (b,0,[]) b x=((b,b,x),0):=by
   unfold YV;rw [if_neg (by simp [yn];omega),if_neg (by simp)]
  have a0:vO m1.pax q b x=({m1.pax with votes:=put q (b,b,x) m1.pax.votes},xO 118 q (le8 b++x),0):=by
   unfold vO;rw [if_neg (by rw [ae];simp),ar,a3,if_neg (by simp)]
  unfold yS;rw [if_neg (by rw [aa];show¬m.down=true;rw [h.up];simp),a0];simp only
  rw [if_neg (by simp),ZO (n:={m1 with pax:={m1.pax with votes:=put q (b,b,x) m1.pax.votes}}) (by rw [aa];exact h.crashed) (by rw [aa];exact h.isCut) (by rw [aa];exact h.cap) (by rw [xu,N1,qE];omega)
   (by rw [xu,N1,qE];show m1.store.log.length+_+_<=_;omega) true]
 have l2:(zH (xO 118 q (le8 b++x))).1.length=22+x.length:=by rw [jS (by rw [xu,N1,qE];omega),xu,N1,qE];omega
 obtain⟨m2,ac⟩:∃m2,m2=({m1 with pax:={m1.pax with votes:=put q (b,b,x) m1.pax.votes},store:={m1.store with log:=m1.store.log++(zH (xO 118 q (le8 b++x))).1}} :zr):=⟨_,rfl⟩;rw [← ac] at ah;have r2:m2.store.log.length=m.store.log.length+44+x.length:=by rw [ac];show(m1.store.log++_).length=_;rw [N1,l2,r1];omega
 have k2:m2.pax.known=m.pax.known:=by rw [ac,aa]
 have d2:m2.down=false:=by rw [ac,aa];exact h.up
 refine⟨⟨h.up,h.kno q an,by rw [hp],by rw [hp,aa];exact h.up,by rw [hp,aa];exact h.kno q an,by rw [hp];show(yS m1 q b x).2=0;rw [ah],by rw [hp];show(yS m1 q b x).1.down=false;rw [ah];exact d2⟩,?_⟩;have ao:zmt q b x m=(jg m2 q x).1:=by unfold zmt;rw [hp];show(jg (yS m1 q b x).1 q x).1=_;rw [ah]
 obtain⟨ag,az⟩:∃ag,zV m2.pax q x=({m2.pax with known:=put q x m2.pax.known,length:=ag},xO 100 q x,0):=by
  unfold zV;rw [if_neg (by rw [ae];simp;omega),k2,h.kno q an];exact⟨_,rfl⟩
 have ay:xO 100 q x≠ []:=λe=>by have:=congrArg List.length e;rw [xu] at this;simp at this
 have al:=ZO (n:={m2 with pax:={m2.pax with known:=put q x m2.pax.known,length:=ag}}) (by rw [ac,aa];exact h.crashed) (by rw [ac,aa];exact h.isCut) (by rw [ac,aa];exact h.cap) (d:=xO 100 q x) (by rw [xu];omega)
  (by rw [xu];show m2.store.log.length+_+_<=_;omega) true
 have l3:(zH (xO 100 q x)).1.length=14+x.length:=by rw [jS (by rw [xu];omega),xu];omega
 obtain⟨m3,ad⟩:∃m3,m3=({m2 with pax:={m2.pax with known:=put q x m2.pax.known,length:=ag},store:={m2.store with log:=m2.store.log++(zH (xO 100 q x)).1}} :zr):=⟨_,rfl⟩
 have ai:(jg m2 q x).1=(jp 10001 m3).1:=by
  unfold jg;rw [if_neg (by rw [d2];simp)];simp only;rw [az];simp only;rw [if_neg (by simp),if_neg ay,al];simp only;rw [if_neg (by simp),← ad]
 have au:m3.applied=k:=by rw [ad,ac,aa];exact h.applied
 have aq:m3.pax.known=put q x m.pax.known:=by rw [ad];show put q x m2.pax.known=_;rw [k2]
 have a7:zE ((m3.applied:Int)+1) m3.pax.known=some x:=by rw [au,aq,show((k:Int)+1)=q by omega];exact ya _ _ _
 obtain⟨m4,aw⟩:∃m4,m4=(v7 {m3 with applied:=m3.applied+1} ⟨1,1,0,jq i d ti c⟩).1:=⟨_,rfl⟩
 have aj:Jm j d (if i=j then ti+c else t) a (JH (JH m.pool (jq i d ti c)) []):=by
  rw [zid a2]
  show Jm j d _ a (([]:List zA).foldl yY ((jq i d ti c).foldl yY m.pool))
  rw [List.foldl_nil]
  by_cases hij:i=j
  ·subst hij
   rw [if_pos rfl];rw [hti] at htj
   cases htj
   exact Jm.own c _ m.pool h.pool (hca rfl)
  rw [if_neg hij]
  exact Jm.other hij _ _ h.pool (λy hy=>by obtain⟨e, -,rfl⟩:=List.mem_map.1 hy;rfl)
 have af:m4={m3 with applied:=k+1,loc:=Jl v s (tk.set i (ti+c)) (cnt+1) (log++jq i d ti c) (log2++jq i d ti c),pool:=JH (JH m.pool (jq i d ti c)) [] } :=by
  have ak:m3.loc=Jl v s tk cnt log log2:=by rw [ad,ac,aa];exact h.loc
  have a8:∀n:zr,n.acc.length=n.offered->∀f,jE f n=n:=λn hn f=>by
   cases f with
   |zero=>rfl
   |succ f=>
    unfold jE;rw [List.getElem?_eq_none (by omega)]
  rw [aw];unfold v7;simp only;rw [ak,a1];simp only;rw [a8 _ (by show m3.acc.length=m3.offered;rw [ad,ac,aa];show m.acc.length=m.offered;rw [h.acc,h.offered,je])];have ba:m3.wanted=0:=by rw [ad,ac,aa];exact h.wanted
  have a5:m3.pool=m.pool:=by rw [ad,ac,aa]
  rw [au,a5];have:(if vC (Jl v s (tk.set i (ti+c)) (cnt+1) (log++jq i d ti c) (log2++jq i d ti c)).fold.eras=vC (Jl v s tk cnt log log2).fold.eras then m3.wanted else 0)=m3.wanted:=if_pos rfl;rw [this];rfl
 have ap:(jp 10001 m3).1=m4:=by
  have h2:jp 10000 m4=(m4,[]):=by
   unfold jp
   have:zE ((m4.applied:Int)+1) m4.pax.known=none:=by
    rw [af]
    show zE (((k+1:Nat):Int)+1) m3.pax.known=none
    rw [aq,yE,if_neg (by omega)];exact h.kno _ (by omega)
   rw [this]
  rw [show(10001:Nat)=10000+1 from rfl];unfold jp;rw [a7];simp only;rw [am];rw [if_neg (by simp)]
  show(jp 10000 (v7 {m3 with applied:=m3.applied+1} ⟨1,1,0,jq i d ti c⟩).1).1=m4
  rw [← aw,h2]
 rw [ao,ai,ap,af];have r3:m3.store.log.length=m.store.log.length+58+2*x.length:=by rw [ad];show(m2.store.log++_).length=_;rw [N1,l3,r2];omega
 refine⟨by show m3.id=_;rw [ad,ac,aa];exact h.ide,by show m3.bad=_;rw [ad,ac,aa];exact h.bad,by show m3.down=_;rw [ad];exact d2,by show m3.wanted=_;rw [ad,ac,aa];exact h.wanted,λp hp=>?_,λp hp=>?_,rfl,rfl,
  by show m3.store.crashed=_;rw [ad,ac,aa];exact h.crashed,by show m3.store.isCut=_;rw [ad,ac,aa];exact h.isCut,by show m3.store.cap=_;rw [ad,ac,aa];exact h.cap,by show m3.store.log.length+room<=_;omega,
  by show m3.acc=_;rw [ad,ac,aa];exact h.acc,by show m3.offered=_;rw [ad,ac,aa];exact h.offered,aj,?_⟩
 ·show zE p m3.pax.known=none
  rw [aq,yE,if_neg (by omega)];exact h.kno _ (by omega)
 ·show zE p m3.pax.votes=none
  rw [ad,ac,aa]
  show zE p (put q _ (put q _ m.pax.votes))=none
  rw [yE,if_neg (by omega),yE,if_neg (by omega)];exact h.vot _ (by omega)
 split
 ·rename_i hij
  subst hij;rw [hti] at htj
  cases htj
  exact hca rfl
 exact h.ta
end
open Go Go.RowKit Go.Shelf Go.Extern.Stop Go.Stop Go.Extern
attribute [local go_sem] Oper.semAt_some zB zp
def Jn:Value:=.agg #[]
def Vw(p:xr):Prop:=(∀q∈p.waits,q.2.1=q.1)/\(p.waits.map (·.1)).Nodup/\p.waits.length<=1000
def xJ(wb db:Nat):Array Value:=#[.map (some wb),.map (some db)]
def j5(B:Nat)(p:xr)(t:List Nat)(ow:Own)(W:World):Prop:=
 Vw p/\∃wb db,Blk W B (xJ wb db) 231/\z6 W wb idV (p.waits.map λq=>(q.1,y7 q.2))/\z6 W db idV (p.done.map λq=>(q.1,Jn))/\wb≠db/\ow B=t/\ow wb=t/\ow db=t
theorem j5.loc(B:Nat)(p:xr)(t:List Nat):yI t (j5 B p t):=by
 rintro ow ow' W W'⟨hl,vb,kb,hB,hv,hk,ac,o1,o2,o3⟩ hs aa;have kB:=aa B hB.lt (by rw [o1];exact Sub.rfl' t);have kv:=aa vb hv.lt (by rw [o2];exact Sub.rfl' t);have kk:=aa kb hk.lt (by rw [o3];exact Sub.rfl' t);exact⟨hl,vb,kb,hB.kept kB.2,hv.kept kv.2,hk.kept kk.2,ac,kB.1.trans o1,kv.1.trans o2,kk.1.trans o3⟩
def zkd(B:Nat)(p:xr)(t:List Nat)(ow:Own)(w:World)(v:Value)(e:Ending)(w':World):Prop:=
 e=.returned v/\∃ow',zt t ow w ow' w'/\j5 B p t ow' w'
def zdP(t:List Nat)(ow:Own)(w:World)(e:Ending)(w':World):Prop:=
 ∃B ow',e=.returned (.pointer (some ⟨B,0,none⟩))/\zt t ow w ow' w'/\Below w.heap.size w w'/\j5 B Ze t ow' w'/\w.heap.size<=B
theorem zie(t:List Nat)(ow:Own)(w:World):Calls prog 89 #[] w (zdP t ow w):=by
 have aa:= @run_makeMap prog
 go_enter func89,ntmps89
 go_wp2;go_ret
 have hb:Below w.heap.size w (((w.alloc (.map #[] 0)).alloc (.map #[] 0)).alloc (.cells #[.map (some w.heap.size),.map (some (w.heap.size+1))] 231)):=pbx;refine⟨w.heap.size+2,ow.ext w.heap.size (λ_=>True) t,rfl,⟨Mod.of_below _ hb,λk hk=>Own.ext_old hk⟩,hb,⟨⟨by simp [Ze],by simp [Ze],by simp [Ze]⟩,w.heap.size,w.heap.size+1,Blk.new (by simp),?_,?_,by omega,Own.ext_new (by omega) trivial,Own.ext_new (by omega) trivial,Own.ext_new (by omega) trivial⟩,by omega⟩
 ·exact((z6.made w idV).kept (U4 _ _ _ (by simp))).kept (U4 _ _ _ (by simp;omega))
 have h:=(z6.made (w.alloc (.map #[] 0)) idV).kept (U4 (w.alloc (.map #[] 0)|>.alloc (.map #[] 0)) (.cells #[.map (some w.heap.size),.map (some (w.heap.size+1))] 231) _ (by simp))
 simpa [Ze] using h
theorem Qy(b:Nat)(w:World):(binOp .eql 228 (.map (some b)) (.map none)).run prog w=.ok (.bool false) w:=by kernel_rfl
theorem zif(w:World):(zeroValue 294).run prog w=.ok (.agg #[.int .i64 0,.int .u32 0,.string ⟨#[]⟩]) w:=by kernel_rfl
theorem zig(w:World):(zeroValue 190).run prog w=.ok Jn w:=by kernel_rfl
theorem Yu(B:Nat)(wb db:Nat)(w:World)(hB:Blk w B (xJ wb db) 231):Calls prog 182 #[.pointer (some ⟨B,0,none⟩)] w λe w'=>e=.returned (.bool false)/\w'=w:=by
 unfold xJ at hB;have e0:=hB.cell;have h0:=Qy wb w
 go_enter func182,ntmps182
 go_wp2;go_ret
 exact⟨rfl,rfl⟩
theorem ze4(B:Nat)(p:xr)(t:List Nat)(ow:Own)(i:Int)(c:Nat)(w:World)(h:j5 B p t ow w):
 Calls prog 183 #[.pointer (some ⟨B,0,none⟩),.agg #[.int .i64 i,.int .u32 c]] w λe w'=>e=.returned (.bool (zE (i,c) p.done).isSome)/\Below w.heap.size w w':=by
 obtain⟨hl,wb,db,hB,hv,hk,af,o1,o2,o3⟩:=h;have aa:=λW hW=>Yu B wb db W hW
 unfold xJ at hB aa
 have ac:∀W,Below w.heap.size w W->(Instr.lookup 229 (.map (some db)) (.agg #[.int .i64 i,.int .u32 c]) true).run prog W=.ok (.tuple #[.agg #[],.bool (zE (i,c) p.done).isSome]) W:=λW hW=>by
  have ac:=(hk.kept (hW.block db hk.lt)).lookup_ok VK Tryz.underlying229 (zig W) (i,c);have ae:=xB (λ_:Unit=>Jn) ((i,c):MId) p.done;rw [ae,Option.isSome_map,show((zE (i,c) p.done).map λ_=>Jn).getD Jn=Jn by cases zE (i,c) p.done<;>rfl] at ac;exact ac
 clear hv hk hl
 generalize(zE (i,c) p.done).isSome=b at*
 replace aa:=hid aa;replace ac:=hid ac;have ad:=hB.alloc (.cells #[.int .i64 i,.int .u32 c] 76);have hX:Blk (w.alloc (.cells #[.int .i64 i,.int .u32 c] 76)) w.heap.size #[.int .i64 i,.int .u32 c] 76:=Blk.new rfl;replace hB:=hid hB
 go_enter func183,ntmps183
 go_wp2_with fail
 refine(aa.out _ ad).mono ?_;rintro e w1⟨rfl,rfl⟩;go_wp2_with fail
 refine zd [O 0,O 1,O 2,O 3,O 4,O 5,O 6,O 7,O 8,E 9,E 10,O 11] none (λw'=>Blk w' B #[.map (some wb),.map (some db)] 231/\Blk w' w.heap.size #[.int .i64 i,.int .u32 c] 76/\(Instr.lookup 229 (.map (some db)) (.agg #[.int .i64 i,.int .u32 c]) true).run prog w'=.ok (.tuple #[.agg #[],.bool b]) w'/\True) ⟨ad.drew,hX.drew,ac.out _ (pbx),trivial⟩ ?_
 refine Wh ?_
 refine zc rfl (λK hK=>?_);go_wp2;refine hK.out _ _ (λ_=>⟨ad.drew.alloc _,hX.drew.alloc _,ac.out _ (pbx),trivial⟩) ?_;clear hK K;refine zc rfl (λK hK=>?_);go_wp2;refine hK.out _ _ (λ_=>⟨ad.drew.alloc _,hX.drew.alloc _,ac.out _ (pbx),trivial⟩) ?_;clear hK K
 refine Wh ?_
 refine ze ?_;go_wp2;go_ret
 exact⟨rfl,pbx⟩
