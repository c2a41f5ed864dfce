/- PARTS OF THE PROOF. -/
import Derived.Test.YtofppfoioodblaaGreatDoorTT14
import Derived.Test.YtofppfoioodblaaGreatDoorTT15
import Derived.Test.YtofppfoioodblaaGreatDoorTT47
set_option maxRecDepth 8000
set_option maxHeartbeats 4000000
namespace Go.Proofs.YtofppfoioodblaaGreatDoor
section
open Go
theorem zb4(w:zf)(d:Int)(s:List UInt8):w.notes.length<=(yq w d s).1.notes.length:=by
 unfold yq
 split
 ·exact N0 _
 ·simp
theorem ZD(w:zf)(f:yQ):w.notes.length<=(yY w f).notes.length:=by
 unfold yY
 split
 ·exact zb4 _ _ _
 ·exact N0 _
theorem Xy(f:Nat->yQ):∀(l:List Nat)(w:zf),w.notes.length<=(l.foldl (λw i=>yY w (f i)) w).notes.length
 | [],_=>N0 _
 |i::l,w=>Nat.le_trans (ZD w (f i)) (Xy f l _)
theorem J4(w:zf)(kind src inst:Int)(b:Nat)(more:List UInt8):w.notes.length<=(j0 w kind src inst b more).notes.length:=Xy (λi=>ji kind src i inst b more) _ w
theorem zb5(w:zf)(i:Nat)(f:yQ)(inst:Int)(b:Nat)(more:List UInt8):w.notes.length<=(yO w i f inst b more).notes.length:=by
 unfold yO
 split
 ·exact ZD _ _
 ·split
  ·simp only
   split
   ·exact ZD (setNode w i _) _
   ·exact N0 _
  ·simp only
   split
   ·exact ZD (setNode w i _) _
   ·exact N0 _
theorem J5(w:zf)(i src:Nat)(inst:Int)(b:Nat)(more:List UInt8):w.notes.length<=(countPromise w i src inst b more).notes.length:=by
 unfold countPromise
 split
 ·exact N0 _
 ·split
  ·exact N0 _
  ·simp only
   split
   ·exact N0 _
   ·split
    ·exact N0 _
    ·refine Nat.le_trans ?_ (J4 _ _ _ _ _ _);exact N0 _
theorem Xz(w:zf)(i src:Nat)(inst:Int)(b:Nat):w.notes.length<=(countVote w i src inst b).notes.length:=by
 unfold countVote
 split
 ·exact N0 _
 ·split
  ·exact N0 _
  ·simp only
   split
   ·exact N0 _
   ·refine Nat.le_trans ?_ (J4 _ _ _ _ _ _);exact N0 _
theorem zay(w:zf)(i:Nat)(f:yQ):w.notes.length<=(yA w i f).notes.length:=by
 unfold yA
 split
 ·exact N0 _
 ·simp only
  split
  ·exact zb5 _ _ _ _ _ _
  ·split
   ·exact J5 _ _ _ _ _ _
   ·split
    ·exact Xz _ _ _ _ _
    ·split<;>exact N0 _
theorem zf3(w:zf):w.notes.length<=(xw w 0).1.notes.length+1:=by
 unfold xw;rw [if_neg (by omega)]
 split
 ·exact Nat.le_succ _
 ·rename_i id dst s hx
  have hl:(w.notes.eraseIdx (0:Int).toNat).length+1=w.notes.length:=by
   have:=(N6.1 hx).1;rw [List.length_eraseIdx_of_lt this];omega
  simp only
  split
  ·have:=zay {w with notes:=w.notes.eraseIdx (0:Int).toNat,hurt:=del id w.hurt} dst.toNat (zfx s).1
   simp only at this⊢;omega
  ·simp only;omega
theorem zaz(w:zf)(d:Bool)(i:Nat):(tellOne w d i).notes=w.notes:=by
 unfold tellOne;simp only
 split
 ·split<;>rfl
 ·rfl
theorem Je(d:Bool):∀(l:List Nat)(w:zf),(l.foldl (λw i=>tellOne w d i) w).notes=w.notes
 | [],_=>rfl
 |i::l,w=>by rw [List.foldl_cons,Je d l,zaz]
theorem zf4(w:zf):(vZ w).notes=w.notes:=by unfold vZ;rw [Je,Je]
theorem zf5(w:zf):w.notes.length<=(y7 w).notes.length+1:=by
 unfold y7;rw [zf4];exact zf3 w
def Seg:Nat->zf->Prop
 |0,_=>True
 |k+1,w=>w.notes.length≠0/\Seg k (y7 w)
theorem QC:∀(k:Nat)(w:zf),k<=w.notes.length->Seg k w
 |0,_,_=>trivial
 |k+1,w,h=>⟨by omega,QC k _ (by have:=zf5 w;omega)⟩
theorem Seg.add:∀ {a b:Nat} {w:zf},Seg a w->Seg b (jh a w)->Seg (a+b) w
 |0,b,w,_,h2=>by rw [Nat.zero_add];exact h2
 |a+1,b,w,h1,h2=>by
  rw [Nat.succ_add];exact⟨h1.1,Seg.add h1.2 h2⟩
theorem Zm {α:Type}(f:α->α):∀(js:List Nat)(ns:List α),js.Nodup->∀k:Nat,(js.foldl (λns j=>ns.modify j f) ns)[k]?=if k∈js then(ns[k]?).map f else ns[k]?
 | [],ns,_,k=>by simp
 |j::js,ns,h,k=>by
  obtain⟨h1,h2⟩:=List.nodup_cons.1 h;rw [List.foldl_cons,Zm f js _ h2 k,List.getElem?_modify]
  by_cases hk:k∈js
  ·have hjk:¬j=k:=λe=>h1 (by rw [e];exact hk)
   rw [if_pos hk,if_pos (U7 _ hk)]
   cases ns[k]?<;>simp [hjk]
  ·rw [if_neg hk]
   by_cases hjk:j=k
   ·subst hjk
    rw [if_pos (List.mem_cons_self ..)]
    cases ns[j]?<;>simp
   ·rw [if_neg (by simp [hk];exact λe=>hjk e.symm)]
    cases ns[k]?<;>simp [hjk]
theorem Jf {α:Type}(f:α->α)(ns:List α):(List.range ns.length).foldl (λns j=>ns.modify j f) ns=ns.map f:=by
 apply List.ext_getElem?
 intro k;rw [Zm f _ _ List.nodup_range,List.getElem?_map]
 by_cases hk:k<ns.length
 ·rw [if_pos (List.mem_range.2 hk)]
 ·rw [if_neg (λh=>hk (List.mem_range.1 h)),List.getElem?_eq_none (by omega)];rfl
theorem XA(q:Int)(x:List UInt8):∀(js:List Nat)(A:List zp×List jW×List JP),(∀j∈js,j<A.2.1.length)->(js.foldl (vM q x) A).1=js.foldl (λns j=>ns.modify j (λm=>(ja m q x).1)) A.1/\(js.foldl (vM q x) A).2.1.length=A.2.1.length/\
 ∀k:Nat,((js.foldl (vM q x) A).2.1[k]?.getD yV).greatest=(A.2.1[k]?.getD yV).greatest
 | [],A,_=>⟨rfl,rfl,λ_=>rfl⟩
 |j::js,A,h=>by
  obtain⟨s,hs⟩:∃s,A.2.1[j]?=some s:=⟨_,N3 (h j (List.mem_cons_self ..))⟩;rw [List.foldl_cons,List.foldl_cons]
  cases hm:A.1[j]? with
  |none=>
   have hd:vM q x A j=A:=by unfold vM;rw [hm]
   have hmod:A.1.modify j (λm=>(ja m q x).1)=A.1:=by
    apply List.ext_getElem?
    intro k;rw [List.getElem?_modify]
    by_cases hk:j=k
    ·subst hk;rw [hm];rfl
    ·cases A.1[k]?<;>simp [hk]
   rw [hd,hmod];exact XA q x js A (λk hk=>h k (U7 _ hk))
  |some m=>
   have hd:vM q x A j=(A.1.set j (ja m q x).1,A.2.1.set j (XY s (ja m q x).1),A.2.2++zax s j (ja m q x).1):=by unfold vM;rw [hm,hs]
   have hmod:A.1.modify j (λm=>(ja m q x).1)=A.1.set j (ja m q x).1:=by
    apply List.ext_getElem?
    intro k;rw [List.getElem?_modify]
    by_cases hk:j=k
    ·subst hk
     rw [List.getElem?_set_self (N6.1 hm).1,hm];simp
    ·rw [List.getElem?_set_ne hk]
     cases A.1[k]?<;>simp [hk]
   rw [hd,hmod];obtain⟨h1,h2,h3⟩:=XA q x js (A.1.set j (ja m q x).1,A.2.1.set j (XY s (ja m q x).1),A.2.2++zax s j (ja m q x).1) (λk hk=>by simpa using h k (U7 _ hk));refine⟨h1,by rw [h2];simp,λk=>?_⟩;rw [h3 k]
   show((A.2.1.set j _)[k]?.getD yV).greatest=_
   by_cases hk:j=k
   ·subst hk
    rw [List.getElem?_set_self (N6.1 hs).1,hs];rfl
   ·rw [List.getElem?_set_ne hk]
variable {W:zf}{ns:List zp}{ss:List jW}{ld:List (Int×j8)}{tr:List JP}
def zhY(m:zp)(b:Nat):j8:={inst:=yy m,ballot:=b,value:=(jP m).1,promises:=[],promised:=List.replicate 16 false,voted:=List.replicate 16 false,votes:=0,asked:=false,told:=false}
theorem ZU {ss:List jW}(hq:yR ss)(i b:Nat):yR (ss.set i {ss[i]?.getD yV with greatest:=b}):=λk=>by
 by_cases hk:i=k
 ·subst hk
  by_cases hl:i<ss.length
  ·rw [List.getElem?_set_self hl];exact hq i
  ·rw [List.set_eq_of_length_le (by omega)];exact hq i
 ·rw [List.getElem?_set_ne hk];exact hq k
theorem zf6(s:StD)(hW:IsW W ns ss ld [] tr)(hq:yR ss){i b:Nat}{mi:zp}(hn:ns.length<=16)(hmi:ns[i]?=some mi)(hup:mi.down=false)
 (hb:ju (ss[i]?.getD yV).greatest i=(b,0)) (hb2:b<18446744073709551616) (hq2:yy mi<4294967296):
 IsW (doW s W ⟨2,i,0,0,0,[]⟩).1 ns (ss.set i {ss[i]?.getD yV with greatest:=b}) (put (i:Int) (zhY mi b) ld) ((List.range ns.length).map λj=>⟨3,i,j,yy mi,b,[]⟩) tr:=by
 have hi:i<ns.length:=(N6.1 hmi).1;have hnode:zr W i=mi:=by rw [hW.node,hmi];rfl
 have hseat:jg W i=ss[i]?.getD yV:=hW.seat i
 have hd:(doW s W ⟨2,i,0,0,0,[]⟩).1=vZ (j0 {setSeat W i {jg W i with greatest:=b} with leads:=put (i:Int) (zhY mi b) W.leads} 3 i (yy mi:Nat) b []):=by
  unfold doW;rw [if_neg (by simp),if_neg (by rw [hW.nodes];simp;omega)];simp only;rw [if_neg (by simp)]
  show vZ (yZ W s ⟨2,i,0,0,0,[]⟩).1=_
  congr 1
  unfold yZ;simp only;rw [if_neg (by omega),if_pos trivial];unfold yk;rw [Int.toNat_natCast,hnode,hup,hseat,hb];rfl
 have h1:IsW {setSeat W i {jg W i with greatest:=b} with leads:=put (i:Int) (zhY mi b) W.leads} ns (ss.set i {ss[i]?.getD yV with greatest:=b}) (put (i:Int) (zhY mi b) ld) [] tr:=by
  refine⟨hW.nodes,?_,by show put _ _ W.leads=_;rw [hW.leads],hW.notes,hW.hurt,hW.trace⟩
  show W.seats.set i {jg W i with greatest:=b} =_
  rw [hseat,hW.seats]
 have h2:=h1.sendAll 3 i (yy mi) b [] (λj hj=>⟨by show 3<=7;omega,by show i<16;omega,by show j<16;omega,hq2,hb2,by simp⟩) (by simp;omega);have h3:=h2.seats;rw [hd,ZC (by show yR (j0 _ ((3:Nat):Int) _ _ _ _).seats;rw [h3];exact ZU hq i b)]
 simpa using h2
def zla(q:Int)(b:Nat)(x:List UInt8)(m:zp):zp:=(ja (yE (zA m q b).1 q b x).1 q x).1
def zhZ(q:Int)(x:List UInt8)(ns:List zp)(ss:List jW)(tr:List JP):List zp×List jW×List JP:=(List.range ns.length).foldl (vM q x) (ns,ss,tr)
theorem zju(s:StD)(hW:IsW W ns ss ld [] tr)(hq:yR ss)(hss:ss.length=ns.length){i b q:Nat}{x:List UInt8}{mi:zp}(hn:ns.length<=16)(hmi:ns[i]?=some mi)
 (hb:ju (ss[i]?.getD yV).greatest i=(b,0)) (hb2:b<18446744073709551616) (hqe:yy mi=q) (hq2:q<4294967296) (hxe:(jP mi).1=x) (hxl:x.length<=4000)
 (hp:∀m∈ns,m.down=false/\zD (q:Int) m.pax.known=none/\(zA m q b).2=((b,0,[]),0)/\(zA m q b).1.down=false/\zD (q:Int) (zA m q b).1.pax.known=none/\
  (yE (zA m q b).1 q b x).2=0/\(yE (zA m q b).1 q b x).1.down=false):
 ∃ld' ss' tr',(ss',tr')=(zhZ q x (ns.map λm=>(yE (zA m q b).1 q b x).1) (ss.set i {ss[i]?.getD yV with greatest:=b}) tr).2/\
  IsW (jh (5*ns.length) (doW s W ⟨2,i,0,0,0,[]⟩).1) (ns.map (zla q b x)) ss' ld' [] tr'/\yR ss'/\ss'.length=ns.length/\
  (∀k:Nat,(ss'[k]?.getD yV).greatest=((ss.set i {ss[i]?.getD yV with greatest:=b})[k]?.getD yV).greatest)/\Seg (5*ns.length) (doW s W ⟨2,i,0,0,0,[]⟩).1:=by
 have hi:i<ns.length:=(N6.1 hmi).1;have hup:=(hp mi (List.mem_of_getElem? hmi)).1;have h0:=zf6 s hW hq hn hmi hup hb hb2 (by omega);rw [hqe] at h0
 generalize hW1:(doW s W ⟨2,i,0,0,0,[]⟩).1=W1 at h0⊢
 have hq1:=ZU hq i b
 generalize hss1:ss.set i {ss[i]?.getD yV with greatest:=b} =ss1 at h0 hq1⊢
 have hl1:ss1.length=ns.length:=by rw [← hss1];simpa using hss
 have hnd:(List.range ns.length).Nodup:=List.nodup_range;have h16:∀j∈List.range ns.length,j<16:=λj hj=>by have:=List.mem_range.1 hj;omega
 have hget:∀j∈List.range ns.length,∃m,ns[j]?=some m/\m∈ns:=λj hj=>⟨_,N3 (List.mem_range.1 hj),List.getElem_mem _⟩
 have s1:=zen (i:=i) (q:=q) (b:=b) hq1 (by omega) hq2 hb2 (List.range ns.length) W1 ns [] hnd (λj hj=>by
  obtain⟨m,hm,hmem⟩:=hget j hj;obtain⟨g1,g2,g3, -⟩:=hp m hmem
  exact⟨h16 j hj,m,hm,g1,g2,g3⟩) (by simp;omega) (by simpa using h0)
 rw [Jf,List.length_range,List.nil_append] at s1;have n1:(ns.map λm=>(zA m q b).1).length=ns.length:=List.length_map _;have hm1:(ns.map λm=>(zA m q b).1)[i]?=some (zA mi q b).1:=by rw [List.getElem?_map,hmi];rfl
 have hup1:=(hp mi (List.mem_of_getElem? hmi)).2.2.2.1
 obtain⟨ld2,l2,k1,k2,k3,k4,k5,k6,k7,s2⟩:=promises (ns:=ns.map λm=>(zA m q b).1) (i:=i) (q:=q) (b:=b) (x:=x) hq1 (by omega) hq2 hb2 hxl (by rw [n1];exact hn) hm1 hup1 (List.range ns.length) (jh ns.length W1) _ (zhY mi b) [] (j1 _ _ _)
  (by show((yy mi:Nat):Int)=_;rw [hqe]) rfl hxe rfl (by rw [n1];show 0+_=_;simp) (by show 2*0<=_;omega) (by rw [n1];omega) (λv hv=>by cases hv) (λk hk=>by
   show((List.replicate 16 false)[k]?).getD false=false
   rw [List.getElem?_replicate,if_pos (h16 k hk)];rfl) hnd h16 (by simp;omega) (by simpa using s1)
 rw [List.length_range,List.nil_append,n1] at s2
 have s3:=zhX (i:=i) (q:=q) (b:=b) (x:=x) hq1 (by omega) hq2 hb2 (by omega) (List.range ns.length) (jh ns.length (jh ns.length W1)) _ [] hnd (λj hj=>by
  obtain⟨m,hm,hmem⟩:=hget j hj;obtain⟨-, -, -,g4,g5,g6, -⟩:=hp m hmem
  exact⟨h16 j hj,(zA m q b).1,by rw [List.getElem?_map,hm];rfl,g4,g5,g6⟩) (by simp;omega) (by simpa using s2)
 have e3:=Jf (λm=>(yE m q b x).1) (ns.map λm=>(zA m q b).1);rw [n1] at e3;rw [e3,List.length_range,List.nil_append,List.map_map] at s3
 generalize hns2:ns.map ((λm=>(yE m q b x).1)∘ λm=>(zA m q b).1)=ns2 at s3
 have n2:ns2.length=ns.length:=by rw [← hns2];exact List.length_map _
 have hm2:ns2[i]?=some (yE (zA mi q b).1 q b x).1:=by rw [← hns2,List.getElem?_map,hmi];rfl
 have hup2:=(hp mi (List.mem_of_getElem? hmi)).2.2.2.2.2.2
 obtain⟨ld4,s4⟩:=zep (ns:=ns2) (i:=i) (q:=q) (b:=b) (x:=x) hq1 (by omega) hq2 hb2 hxl (by rw [n2];exact hn) hm2 hup2 (List.range ns.length) (jh ns.length (jh ns.length (jh ns.length W1))) ld2 l2 [] k1
  k2 k3 k4 (by rw [k5];rfl) (by rw [k7,n2];show 0+_=_;simp) (by rw [k7];show 2*0<=_;omega) (by rw [n2];omega) (λk hk=>by
   rw [k6]
   show((List.replicate 16 false)[k]?).getD false=false
   rw [List.getElem?_replicate,if_pos (h16 k hk)];rfl) hnd h16 (by simp;omega) (by simpa using s3)
 rw [List.length_range,List.nil_append,n2] at s4
 obtain⟨s5,hq5⟩:=zeo (ld:=ld4) (i:=i) (q:=q) (b:=b) (x:=x) (by omega) hq2 hb2 (by omega) (List.range ns.length) (jh ns.length (jh ns.length (jh ns.length (jh ns.length W1)))) (ns2,ss1,tr) [] hq1 hnd (λj hj=>by
  obtain⟨m,hm,hmem⟩:=hget j hj;obtain⟨-, -, -, -, -, -,g7⟩:=hp m hmem
  exact⟨h16 j hj,(yE (zA m q b).1 q b x).1,ss1[j]'(by rw [hl1];exact List.mem_range.1 hj),by show ns2[j]?=_;rw [← hns2,List.getElem?_map,hm];rfl,N3 _,g7⟩) (by simpa using s4)
 obtain⟨d1,d2,d3⟩:=XA q x (List.range ns.length) (ns2,ss1,tr) (λj hj=>by rw [hl1];exact List.mem_range.1 hj);have e5:=Jf (λm=>(ja m q x).1) ns2;rw [n2] at e5;rw [d1,List.length_range,e5] at s5;subst hns2;rw [List.map_map] at s5
 have hst:∀w,jh (5*ns.length) w=jh ns.length (jh ns.length (jh ns.length (jh ns.length (jh ns.length w)))):=λw=>by
  rw [show 5*ns.length=ns.length+(ns.length+(ns.length+(ns.length+ns.length)))by omega,qv,qv,qv,qv]
 refine⟨ld4,_,_,?_,by rw [hst];exact s5,hq5,by rw [d2];exact hl1,d3,?_⟩
 ·unfold zhZ
  rw [List.length_map];rfl
 have g0:Seg ns.length W1:=QC _ _ (by rw [h0.len];simp);have g1:Seg ns.length (jh ns.length W1):=QC _ _ (by rw [s1.len];simp);have g2:Seg ns.length (jh ns.length (jh ns.length W1)):=QC _ _ (by rw [s2.len];simp);have g3:Seg ns.length (jh ns.length (jh ns.length (jh ns.length W1))):=QC _ _ (by rw [s3.len];simp);have g4:Seg ns.length (jh ns.length (jh ns.length (jh ns.length (jh ns.length W1)))):=QC _ _ (by rw [s4.len];simp);rw [show 5*ns.length=ns.length+(ns.length+(ns.length+(ns.length+ns.length)))by omega];exact g0.add (g1.add (g2.add (g3.add g4)))
end
open Go
def jD(j:Nat)(d:List UInt8)(t k:Nat):List zy:=(List.range' t k).map λc=>(((j:Int),c+1),d)
theorem zf7(j:Nat)(d:List UInt8)(t:Nat):jD j d t 0=[]:=rfl
theorem xI(j:Nat)(d:List UInt8)(t k:Nat):jD j d t (k+1)=(((j:Int),t+1),d)::jD j d (t+1) k:=by
 unfold jD;rw [List.range'_succ];rfl
theorem yG(j:Nat)(d:List UInt8)(t k:Nat):(jD j d t k).length=k:=by simp [jD]
theorem J6(j:Nat)(d:List UInt8)(t k l:Nat):jD j d t (k+l)=jD j d t k++jD j d (t+k) l:=by
 unfold jD;rw [← List.map_append,List.range'_append_1]
theorem zf8(j:Nat)(d:List UInt8)(t k l:Nat):(jD j d t k).take l=jD j d t (min l k):=by
 rcases Nat.le_total l k with h|h
 ·obtain⟨r,rfl⟩:=Nat.exists_eq_add_of_le h
  rw [Nat.min_eq_left h,J6];exact List.take_left' (yG j d t l)
 ·rw [Nat.min_eq_right h,List.take_of_length_le (by rw [yG];exact h)]
theorem qN {j:Nat}(hj:j<16){d:List UInt8}(hd:d.length<=1000){t k:Nat}(ht:t+k<=1000000):∀m∈jD j d t k,zB m=true:=λm hm=>by
 obtain⟨c,hc,rfl⟩:=List.mem_map.1 hm;have:=List.mem_range'_1.1 hc;simp only [zB,Bool.and_eq_true,decide_eq_true_eq];omega
theorem zh0 {m:zy} :∀ {l:List zy},(∀x∈l.head?,ltM m x=true)->ziG m l=m::l
 | [],_=>rfl
 |x::l,h=>by unfold ziG;rw [if_pos (h x rfl)]
theorem QD(j:Nat)(d:List UInt8):∀(k t:Nat),qE (jD j d t k)=jD j d t k
 |0,t=>rfl
 |k+1,t=>by
  rw [xI];have ih:=QD j d k (t+1);unfold qE at ih⊢;rw [List.foldr_cons,ih];refine zh0 (λx hx=>?_)
  cases k with
  |zero=>cases hx
  |succ k=>
   rw [xI] at hx
   cases hx
   simp [ltM]
theorem zaA {d:List UInt8}(hd:d.length<=100):∀(l:List zy),(∀m∈l,m.2=d)->(l.flatMap jj).length<=109*l.length
 | [],_=>by simp
 |m::l,h=>by
  have ih:=zaA hd l (λx hx=>h x (U7 _ hx));rw [List.flatMap_cons,N1,xB,h m (List.mem_cons_self ..),List.length_cons];omega
theorem Jg {d:List UInt8}(hd:d.length<=100){l:List zy}(hl:l.length<=8)(hr:∀m∈l,zB m=true)(he:∀m∈l,m.2=d):(jv ⟨1,1,0,l⟩).2=0:=by
 have hp:ye l=([UInt8.ofNat (l.length % 256)] ++l.flatMap jj,0):=by
  unfold ye;rw [if_neg (by omega),if_pos (List.all_eq_true.2 hr)]
 have hlen:=zaA hd l he;unfold jv;rw [if_neg (by simp [xM])];rw [if_neg (by rw [hp];simp)];rw [if_neg (by rw [hp];simp only [N1,List.length_cons,List.length_nil,qG];omega)]
theorem XB {d:List UInt8}(hd:d.length<=100){era:qZ}(he:era.1=1):∀(l p:List zy)(r:List UInt8×Bool),p.length+l.length<=8->(∀m∈p++l,zB m=true)->(∀m∈p++l,m.2=d)->
 jT era p l r=if l=[] then r else qU ⟨1,1,0,p++l⟩
 | [],p,r,_,_,_=>by unfold jT;rfl
 |m::l,p,r,h,hr,hm=>by
  have hmem:∀x,x∈p++ [m] ->x∈p++m::l:=λx hx=>by
   rcases List.mem_append.1 hx with h|h
   ·exact List.mem_append.2 (.inl h)
   ·exact List.mem_append.2 (.inr (by simpa using .inl (by simpa using h)))
  have hok:(qU ⟨1,era.1,0,p++ [m]⟩).2=true:=by
   rw [he];unfold qU;rw [Jg hd (by simp at h⊢;omega) (λx hx=>hr x (hmem x hx)) (λx hx=>hm x (hmem x hx))];rfl
  unfold jT;rw [if_pos hok,if_neg (by simp)];rw [XB hd he l (p++ [m]) _ (by simp at h⊢;omega) (by rw [List.append_assoc];exact hr) (by rw [List.append_assoc];exact hm)]
  by_cases hl:l=[]
  ·rw [if_pos hl,hl,he]
  ·rw [if_neg hl,List.append_assoc];rfl
def ZI(v:Int)(s:StD)(tk:List Nat)(cnt:Int)(log log2:List zy):zR:={fold:={book:={tk:=tk,log:=log,ws:=[] },eras:=[(1,v,0)],count:=cnt,sw:=false},st:=s,blk:=false,held:=[],log:=log2}
theorem Y3 {j:Nat}(hj:j<16){d:List UInt8}(hd:d.length<=1000):∀(k t:Nat)(tk:List Nat)(log:List zy),tk.length=16->tk[j]?=some t->t+k<=1000000->
 zV {tk:=tk,log:=log,ws:=[] } (jD j d t k)=({tk:=tk.set j (t+k),log:=log++jD j d t k,ws:=[] },jD j d t k)
 |0,t,tk,log,hl,ht,_=>by
  rw [zf7];unfold zV
  have:tk.set j (t+0)=tk:=by
   apply List.ext_getElem?
   intro i
   by_cases hi:j=i
   ·subst hi;rw [List.getElem?_set_self (by omega),ht];rfl
   ·rw [List.getElem?_set_ne hi]
  rw [this,List.append_nil]
 |k+1,t,tk,log,hl,ht,hk=>by
  rw [xI];unfold zV;have hr:zB (((j:Int),t+1),d)=true:=by simp only [zB,Bool.and_eq_true,decide_eq_true_eq];omega
  have htake:xo {tk:=tk,log:=log,ws:=[] } (((j:Int),t+1),d)=({tk:=tk.set j (t+1),log:=log++ [(((j:Int),t+1),d)],ws:=[] },[(((j:Int),t+1),d)],0):=by
   have hnx:ZG {tk:=tk,log:=log,ws:=[] } (j:Int)=t+1:=by
    unfold ZG;rw [if_pos (by simp [vi];omega),Int.toNat_natCast,ht];simp only [Option.getD_some];omega
   unfold xo;rw [if_neg (by rw [hr];simp),if_neg (by rw [hnx];simp)];simp only [zU,xK,del,List.length_nil,List.foldl_cons,List.foldl_nil,Int.toNat_natCast]
  rw [htake];simp only;have ih:=Y3 hj hd k (t+1) (tk.set j (t+1)) (log++ [(((j:Int),t+1),d)]) (by simpa using hl) (List.getElem?_set_self (by omega)) (by omega);rw [ih];simp only [List.set_set,List.append_assoc,List.cons_append,List.nil_append];rw [show t+1+k=t+(k+1)by omega]
theorem zf9 {v:Int}{s:StD}{j:Nat}(hj:j<16){d:List UInt8}(hd:d.length<=100){t k:Nat}(hk:k<=8)(ht:t+k<=1000000){tk:List Nat}(hl:tk.length=16)(htk:tk[j]?=some t)(cnt:Int)(log log2:List zy)(b:Bool):
 j6 (ZI v s tk cnt log log2) ⟨1,1,0,jD j d t k⟩ b=(ZI v s (tk.set j (t+k)) (cnt+1) (log++jD j d t k) (log2++jD j d t k),jD j d t k,0):=by
 have hr:=qN hj (d:=d) (by omega) ht;have hm:∀m∈jD j d t k,m.2=d:=λm hm=>by obtain⟨c, -,rfl⟩:=List.mem_map.1 hm;rfl
 have henc:=Jg hd (by rw [yG];exact hk) hr hm
 have hA:jX (ZI v s tk cnt log log2).fold ⟨1,1,0,jD j d t k⟩=({book:={tk:=tk.set j (t+k),log:=log++jD j d t k,ws:=[] },eras:=[(1,v,0)],count:=cnt+1,sw:=false},jD j d t k,false,0):=by
  unfold jX;rw [if_neg (by simp [ZL,henc]),if_neg (by simp [vk,ZI]),if_pos rfl];have hdel:=Y3 hj (d:=d) (by omega) k t tk log hl htk ht;unfold ZI;simp only;rw [hdel]
 unfold j6;rw [hA];unfold zh8 qo yw;simp [ZI]
structure J7(j:Nat)(d:List UInt8)(t a:Nat)(p:vU):Prop where
 waits:p.waits=(jD j d t (a - t)).map λm=>(m.1,m)
 done:∀c,(zD ((j:Int),c+1) p.done).isSome=decide (c<t)
theorem QE {K V:Type} [DecidableEq K](i:K):∀(l:List (K×V)),(∀x∈l,x.1≠i)->del i l=l
 | [],_=>rfl
 |(a,b)::l,h=>by
  unfold del;rw [if_neg (λe=>h (a,b) (List.mem_cons_self ..) e.symm),QE i l (λx hx=>h x (U7 _ hx))]
theorem zdy {i j:Nat}(hij:i≠j)(d:List UInt8)(c t k:Nat):∀x∈(jD j d t k).map λm=>(m.1,m),x.1≠((i:Int),c):=λx hx=>by
 obtain⟨m,hm,rfl⟩:=List.mem_map.1 hx;obtain⟨e, -,rfl⟩:=List.mem_map.1 hm;intro h;have:=congrArg Prod.fst h;simp only at this;omega
theorem J7.other {i j:Nat}(hij:i≠j){d:List UInt8}{t a:Nat} :∀(l:List zy)(p:vU),J7 j d t a p->(∀m∈l,m.1.1=(i:Int))->J7 j d t a (l.foldl yM p)
 | [],p,h,_=>h
 |m::l,p,h,hm=>by
  rw [List.foldl_cons];refine J7.other hij l _ ?_ (λx hx=>hm x (U7 _ hx));obtain⟨⟨o,c⟩,e⟩:=m;have ho:o=(i:Int):=hm _ (List.mem_cons_self ..);subst ho;unfold yM;simp only
  split
  ·exact h
  ·refine⟨?_,λc'=>?_⟩
   ·show del _ p.waits=_
    rw [h.waits];exact QE _ _ (zdy hij d c t (a - t))
   ·show(zD _ (put _ () p.done)).isSome=_
    rw [yz,if_neg (λe=>by have:=congrArg Prod.fst e;simp only at this;omega)];exact h.done c'
theorem J7.own {j:Nat}{d:List UInt8}{a:Nat} :∀(k t:Nat)(p:vU),J7 j d t a p->t+k<=a->J7 j d (t+k) a ((jD j d t k).foldl yM p)
 |0,t,p,h,_=>h
 |k+1,t,p,h,hk=>by
  rw [xI,List.foldl_cons]
  have h1:J7 j d (t+1) a (yM p (((j:Int),t+1),d)):=by
   unfold yM;simp only;rw [if_neg (by rw [h.done t];simp)];refine⟨?_,λc=>?_⟩
   ·show del _ p.waits=_
    rw [h.waits,show a - t=(a - (t+1))+1 by omega,xI,List.map_cons];unfold del;rw [if_pos rfl]
   ·show(zD _ (put _ () p.done)).isSome=_
    rw [yz]
    by_cases hc:c=t
    ·subst hc;rw [if_pos rfl];simp
    ·rw [if_neg (λe=>hc (by have:=congrArg Prod.snd e;simp only at this;omega)),h.done c]
     exact decide_eq_decide.2 (by omega)
  have:=J7.own k (t+1) _ h1 (by omega)
  rwa [show t+1+k=t+(k+1)by omega] at this
