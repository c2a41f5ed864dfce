/- PARTS OF THE PROOF. -/
import Derived.Maps.RangeRun
import Derived.Test.YtofppfoioodblaaGreatDoorTT17
set_option maxRecDepth 8000
set_option maxHeartbeats 4000000
open Go.Proofs.Tryz
namespace Go.Proofs.YtofppfoioodblaaGreatDoor
section
open Go Go.RowKit Go.Shelf Go.Extern.Stop Go.Stop Go.Extern Go.Lib Go.Sort
attribute [local go_sem] Oper.semAt_some zv zm
theorem Q9(x y:zy):ltOf zjB x y=(decide (x.1.1<y.1.1)||(decide (x.1.1=y.1.1)&& decide (x.1.2<y.1.2))):=by
 obtain⟨⟨xi,xc⟩,xd⟩:=x;obtain⟨⟨yi,yc⟩,yd⟩:=y;unfold ltOf zjB Lib.compareInt;simp only
 by_cases h1:xi<yi
 ·simp [h1]
 ·by_cases h2:yi<xi
  ·have:¬xi=yi:=by omega
   simp [h1,h2,this]
  ·have h3:xi=yi:=by omega
   subst h3
   by_cases h4:(xc:Int)<yc
   ·have:xc<yc:=by omega
    simp [h4,this]
   ·by_cases h5:(yc:Int)<xc
    ·have:¬xc<yc:=by omega
     simp [h4,h5,this]
    ·have:¬xc<yc:=by omega
     simp [h4,h5,this]
theorem zlx:SWO (ltOf zjB) where
 irrefl x:=by rw [Q9];simp
 trans x y z h1 h2:=by
  rw [Q9] at*;simp only [Bool.or_eq_true,Bool.and_eq_true,decide_eq_true_eq] at*;omega
 ntrans x y z h1 h2:=by
  rw [Q9] at*;simp only [Bool.or_eq_false_iff,Bool.and_eq_false_iff,decide_eq_false_iff_not] at*;omega
theorem ze8 {a b:zy}(h:ltOf zjB b a=false):ltM a b=true:=by
 rw [Q9] at h;simp only [Bool.or_eq_false_iff,Bool.and_eq_false_iff,decide_eq_false_iff_not] at h;unfold ltM;simp only [Bool.or_eq_true,Bool.and_eq_true,decide_eq_true_eq];omega
theorem zbp {a b:zy}(h:ltM a b=true)(k:ltM b a=true):a.1=b.1:=by
 unfold ltM at h k;simp only [Bool.or_eq_true,Bool.and_eq_true,decide_eq_true_eq] at h k
 apply Prod.ext<;>omega
theorem zg6(a b:zy)(h:ltM a b=false):ltM b a=true:=by
 unfold ltM at*;simp only [Bool.or_eq_false_iff,Bool.and_eq_false_iff,decide_eq_false_iff_not,Bool.or_eq_true,Bool.and_eq_true,decide_eq_true_eq] at*;omega
theorem zg7 {a b c:zy}(h:ltM a b=true)(k:ltM b c=true):ltM a c=true:=by
 unfold ltM at*;simp only [Bool.or_eq_true,Bool.and_eq_true,decide_eq_true_eq] at*;omega
theorem VT(m:zy):∀l,(ziG m l).Perm (m::l)
 | []=>List.Perm.refl _
 |x::l=>by
  unfold ziG
  split
  ·exact List.Perm.refl _
  ·exact((VT m l).cons x).trans (List.Perm.swap m x l)
theorem vD:∀l,(qE l).Perm l
 | []=>List.Perm.refl _
 |x::l=>(VT x (qE l)).trans ((vD l).cons x)
theorem VU(m:zy):∀l:List zy,l.Pairwise (λa b=>ltM a b=true)->(ziG m l).Pairwise (λa b=>ltM a b=true)
 | [],_=>by simp [ziG]
 |x::l,h=>by
  unfold ziG
  split
  ·rename_i hx
   refine List.pairwise_cons.2 ⟨λy hy=>?_,h⟩
   rcases List.mem_cons.1 hy with rfl|hy
   ·exact hx
   ·exact zg7 hx ((List.pairwise_cons.1 h).1 y hy)
  ·rename_i hx
   have hx':ltM x m=true:=zg6 m x (by simpa using hx);refine List.pairwise_cons.2 ⟨λy hy=>?_,VU m l (List.pairwise_cons.1 h).2⟩
   rcases List.mem_cons.1 ((VT m l).mem_iff.1 hy)with rfl|hy
   ·exact hx'
   ·exact(List.pairwise_cons.1 h).1 y hy
theorem qe:∀l:List zy,(qE l).Pairwise (λa b=>ltM a b=true)
 | []=>List.Pairwise.nil
 |x::l=>VU x _ (qe l)
theorem qH:∀(a b:List zy),a.Perm b->a.Pairwise (λa b=>ltM a b=true)->b.Pairwise (λa b=>ltM a b=true)->(a.map (·.1)).Nodup->a=b
 | [],b,h,_,_,_=>(List.nil_perm.1 h).symm ▸ rfl
 |x::a,[],h,_,_,_=>by cases List.perm_nil.1 h
 |x::a,y::b,h,ha,hb,hn=>by
  have hxb:x∈y::b:=h.mem_iff.1 (List.mem_cons_self ..);have hya:y∈x::a:=h.mem_iff.2 (List.mem_cons_self ..)
  have hxy:x=y:=by
   rcases List.mem_cons.1 hya with e|hy
   ·exact e.symm
   ·rcases List.mem_cons.1 hxb with e|hx
    ·exact e
    ·have h1:=(List.pairwise_cons.1 ha).1 y hy
     have h2:=(List.pairwise_cons.1 hb).1 x hx;have h3:=zbp h1 h2;have h4:=(List.nodup_cons.1 hn).1;exact absurd (List.mem_map.2 ⟨y,hy,h3.symm⟩) h4
  subst hxy;rw [qH a b ((List.perm_cons x).1 h) (List.pairwise_cons.1 ha).2 (List.pairwise_cons.1 hb).2 (List.nodup_cons.1 hn).2]
theorem Qf(l:List zy):flatK zh 3 l.toArray=(l.flatMap zh).toArray:=by
 have hlen:(l.flatMap zh).length=l.length*3:=by
  induction l with
  |nil=>rfl
  |cons x l ih=>rw [List.flatMap_cons,N1,ih,List.length_cons];simp [zh];omega
 apply Array.ext
 ·simp [hlen]
 ·intro t h1 h2
  have ht:t<l.length*3:=by simpa using h1
  have hk:t / 3<l.length:=by omega
  have hx:l[t / 3]?=some l[t / 3]:=N3 hk;have hf:=xG l (t / 3) _ hx (t % 3) (Nat.mod_lt _ (by omega));rw [show t / 3*3+t % 3=t by omega] at hf
  have h3:(l.flatMap zh)[t]?=some ((l.flatMap zh).toArray[t]):=by
   rw [N3 (by rw [hlen];exact ht)];simp
  have hget:=get_flatK zh 3 l.toArray t (by simpa using ht);rw [getElem!_pos _ t h1] at hget;rw [hget];rw [h3] at hf;have h4:l.toArray[t / 3]! =l[t / 3]:=by rw [getElem!_pos _ _ (by simpa using hk)];simp
  rw [h4];have hlt:t % 3<(zh l[t / 3]).length:=by simp [zh];omega
  rw [N3 hlt] at hf;rw [getElem!_pos (zh l[t / 3]) (t % 3) hlt];exact(Option.some.inj hf).symm
theorem zld:Yc prog 436 294 3 32 (.agg #[.int .i64 0,.int .u32 0,.string ⟨#[]⟩]):=⟨Tryz.underlying436,by kernel_rfl,rfl,by decide,by decide⟩
theorem ze9 {W:World}{g n:Nat}{cur:Array Value}{e:TypeId}(hg:W.heap[g]?=some (.cells cur e (0,0)))(hs:n*3<=cur.size)(l:List zy)(hl:l.length=n)(m:Nat)(os:Array Obj):
 Mod (λk=>k=g) W (sortWorldK zh 3 W g 0 m l.toArray os)/\∃cur',(sortWorldK zh 3 W g 0 m l.toArray os).heap[g]?=some (.cells cur' e (0,0))/\cur'.size=cur.size/\cur'.toList.take (n*3)=l.flatMap zh:=by
 have hlen:(l.flatMap zh).length=n*3:=by
  rw [← hl];clear hl hs
  induction l with
  |nil=>rfl
  |cons x l ih=>rw [List.flatMap_cons,N1,ih,List.length_cons];simp [zh];omega
 have hgl:g<W.heap.size:=(N5.1 hg).1
 have hheap:(sortWorldK zh 3 W g 0 m l.toArray os).heap=(W.heap.modify g (onCells (putCells id 0 (l.flatMap zh).toArray)))++os:=by
  rw [← Qf];rfl
 refine⟨⟨rfl,rfl,rfl,by rw [hheap];simp,λk hk hn=>?_⟩,putCells id 0 (l.flatMap zh).toArray cur,?_,by simp [putCells],?_⟩
 ·rw [hheap,Array.getElem?_append_left (by simpa using hk),Array.getElem?_modify,if_neg (λe=>hn e.symm)]
 ·rw [hheap,Array.getElem?_append_left (by simpa using hgl),Array.getElem?_modify,if_pos rfl,hg];rfl
 ·apply List.ext_getElem?
  intro k;rw [List.getElem?_take]
  by_cases hk:k<n*3
  ·rw [if_pos hk]
   have hkc:k<cur.size:=by omega
   have hkl:k<(l.flatMap zh).length:=by omega
   unfold putCells;rw [Array.getElem?_toList,Array.getElem?_mapIdx,Array.getElem?_eq_getElem hkc,Option.map_some,if_pos (by rw [List.size_toArray,hlen];omega)];rw [Nat.sub_zero,getElem!_pos (l.flatMap zh).toArray k (by simpa using hkl),N3 hkl];simp
  ·rw [if_neg hk,List.getElem?_eq_none (by omega)]
def ziU(g cap:Nat)(l:List zy)(W:World)(e:Ending)(W':World):Prop:=
 e=.returned (.tuple #[])/\Mod (λk=>k=g) W W'/\Row W' 294 3 (.slice (some ⟨g,0,none⟩) l.length cap) l.length ((qE l).flatMap zh)
theorem ziV(g cap:Nat)(l:List zy)(hn:(l.map (·.1)).Nodup)(hl:l.length<=1073741824)(W:World)(h:Row W 294 3 (.slice (some ⟨g,0,none⟩) l.length cap) l.length (l.flatMap zh)):
 Calls prog 296 #[.slice (some ⟨g,0,none⟩) l.length cap,.func (.func 297) #[] #[]] W (ziU g cap l W):=by
 rcases h.2 with⟨h0, -⟩|⟨g',cap',cur,h0, -,hg,hc,hm,hs,ht⟩
 ·cases h0
 cases h0
 have eg:∀args w,(callFunc 297 args).run prog w=.ok (.enter 297 args) w:=enters_of func297 (by kernel_rfl) rfl;have hlen:(l.flatMap zh).length=l.length*3:=h.1
 have hH:HoldsK zh 3 W g 0 l.toArray:=by
  unfold HoldsK;rw [Qf];intro j hj;have hj':j<(l.flatMap zh).length:=by simpa using hj
  have hB:Blk W g cur 294:=hg;refine⟨?_,by rw [hB.frozen]⟩;rw [hB.cell,Nat.zero_add];have h1:(l.flatMap zh)[j]?=cur[j]?:=by rw [← ht,List.getElem?_take,if_pos (by omega)];simp
  rw [← h1,N3 hj',getElem!_pos (l.flatMap zh).toArray j hj];simp
 have hcon:=AnyQ.slices_SortFunc Tryz.sortPend 3 Tryz.isAgg294 Tryz.sizeOf294 zh (λ_=>rfl) (λx v hv=>by simp [zh] at hv;rcases hv with rfl|rfl|rfl<;>rfl) zjB zlx 297 #[] g 0 cap l.toArray W eg (zj8 g 0 l.toArray.size W) hH (N5.1 hg).1 (by simp;omega)
 change Calls prog 296 _ _ _ at hcon
 refine hcon.mono ?_;rintro e W'⟨rfl,d',n,os,hp,hso,rfl⟩;obtain⟨l',rfl⟩:∃l':List zy,d'=l'.toArray:=⟨d'.toList,by simp⟩;have hsz:l'.length=l.length:=by simpa using hp.1
 have hperm:l'.Perm l:=by
  have h3:(l'.take l.length).Perm l:=by simpa [hsz] using hp.2.2
  rwa [List.take_of_length_le (by omega)] at h3
 have hsorted:l'.Pairwise (λa b=>ltM a b=true):=by
  rw [List.pairwise_iff_getElem];intro i j hi hj hij;have h4:=hso i j (Nat.zero_le _) hij (by simp;omega);rw [getElem!_pos l'.toArray j (by simpa using hj),getElem!_pos l'.toArray i (by simpa using hi)] at h4;exact ze8 (by simpa using h4)
 have heq:l'=qE l:=qH l' (qE l) (hperm.trans (vD l).symm) hsorted (qe l) ((hperm.map (·.1)).nodup_iff.2 hn);obtain⟨hmod,cur',hcur,hcs,hct⟩:=ze9 hg (by omega) l' hsz n os;refine⟨rfl,hmod,?_,.inr ⟨g,cap,cur',rfl,Nat.zero_le _,hcur,hc,hm,by omega,?_⟩⟩
 ·rw [← hlen];exact((vD l).flatMap_right zh).length_eq
 ·rw [hct,heq]
end
section
open Go Go.RowKit Go.Shelf Go.Extern.Stop Go.Stop Go.Extern Go.Lib
attribute [local go_sem] Oper.semAt_some zv zm
theorem XN(cf:Value)(w:World):Calls prog 344 #[.slice none 0 0,.int .i64 0,.int .i64 0,cf] w λe w'=>e=.returned (.tuple #[])/\w'=w:=by
 go_enter func344,ntmps344
 go_wp2
 go_loop [8] (λp8=>p8=.int .i64 1) (λ_=>0)
 case atStart=>rfl
 case round=>
  subst hrel;go_wp2;go_end0
  exact⟨rfl,rfl⟩
theorem ziW(cf:Value)(n:Int)(w:World):Calls prog 330 #[.slice none 0 0,.int .i64 0,.int .i64 0,.int .i64 n,cf] w λe w'=>e=.returned (.tuple #[])/\w'=w:=by
 go_enter func330,ntmps330
 go_wp2
 go_loop [1,2] (λp1 p2=>p1=.int .i64 0/\p2=.int .i64 0) (λ_ _=>0)
 case atStart=>exact⟨rfl,rfl⟩
 case round=>
  obtain⟨rfl,rfl⟩:=hrel;go_wp2_with fail
  refine(XN _ _).mono ?_;rintro e w1⟨rfl,hw1⟩;obtain rfl:=hw1.symm;go_wp2;refine bodyPost_ret (results_none rfl _ _ _) rfl ?_;exact⟨rfl,rfl⟩
theorem zg8(cf:Value)(w:World):Calls prog 296 #[.slice none 0 0,cf] w λe w'=>e=.returned (.tuple #[])/\w'=w:=by
 have hb:=λW=>Tryz.bits_Len 0 W (by omega) (by omega)
 replace hb:=hid hb
 go_enter func296,ntmps296
 go_wp2_with fail
 refine(hb.out _).mono ?_;rintro e w1⟨rfl,hw1⟩;obtain rfl:=hw1.symm;go_wp2_with fail
 refine(ziW _ _ _).mono ?_;rintro e w2⟨rfl,hw2⟩;obtain rfl:=hw2.symm;go_wp2;go_end0
 exact⟨rfl,rfl⟩
def vR(L:List (MapEntry×zy))(seen:Array Nat):List zy:=(L.filter λq=> !seen.contains q.1.born).map (·.2)
theorem zcX(L:List (MapEntry×zy)):vR L #[]=L.map (·.2):=by
 unfold vR;rw [List.filter_eq_self.2];intro q _;simp
theorem Yp(q:MapEntry×zy)(L:List (MapEntry×zy))(seen:Array Nat)(h:seen.contains q.1.born=false):vR (q::L) seen=q.2::vR L seen:=by
 unfold vR;rw [List.filter_cons_of_pos (by rw [h];rfl)];rfl
theorem VV(q:MapEntry×zy)(L:List (MapEntry×zy))(seen:Array Nat)(h:seen.contains q.1.born=true):vR (q::L) seen=vR L seen:=by
 unfold vR;rw [List.filter_cons_of_neg (by rw [h];simp)]
theorem VW(e:MapEntry)(m:zy):∀(L:List (MapEntry×zy)) (seen:Array Nat),(L.map (·.1.born)).Nodup->(e,m)∈L->seen.contains e.born=false->(vR L seen).Perm (m::vR L (seen.push e.born))
 | [],seen,_,h,_=>by cases h
 |q::L,seen,hn,h,hs=>by
  have hn':=List.nodup_cons.1 hn
  rcases List.mem_cons.1 h with h|h
  ·subst h
   have hrest:vR L (seen.push e.born)=vR L seen:=by
    unfold vR
    congr 1
    apply List.filter_congr
    intro q hq;have hne:q.1.born≠e.born:=λe'=>hn'.1 (List.mem_map.2 ⟨q,hq,e'⟩)
    rw [contains_push];simp [hne]
   rw [Yp (e,m) L seen hs,VV (e,m) L (seen.push e.born) (by rw [contains_push];simp),hrest]
  ·have ih:=VW e m L seen hn'.2 h hs
   have hne:q.1.born≠e.born:=λe'=>hn'.1 (List.mem_map.2 ⟨(e,m),h,e'.symm⟩)
   cases hx:seen.contains q.1.born
   ·rw [Yp q L seen hx,Yp q L (seen.push e.born) (by rw [contains_push,hx];simp [hne])]
    exact(ih.cons q.2).trans (List.Perm.swap _ _ _)
   ·rw [VV q L seen hx,VV q L (seen.push e.born) (by rw [contains_push,hx];rfl)]
    exact ih
theorem zcY(L:List (MapEntry×zy))(seen:Array Nat)(h:∀q∈L,seen.contains q.1.born=true):vR L seen=[]:=by
 unfold vR;rw [List.filter_eq_nil_iff.2]
 ·rfl
 ·intro q hq;rw [h q hq];simp
theorem zfa(B:Nat)(w:World):Calls prog 239 #[.pointer (some ⟨B,0,none⟩)] w λe w'=>
 e=.returned (.func (.func 295) #[] #[.pointer (some ⟨w.heap.size,0,none⟩)])/\w'=w.alloc (.cells #[.pointer (some ⟨B,0,none⟩)] 96):=by
 go_enter func239,ntmps239
 go_wp2;go_ret
 exact⟨rfl,rfl⟩
theorem ziX {W:World}{l:List zy}{g n cap:Nat}(h:Row W 294 3 (.slice (some ⟨g,0,none⟩) n cap) n (l.flatMap zh))(hl:l.length=n){k:Nat}{x:zy}(hx:l[k]?=some x):
 W.cell? ⟨g,0+k*3,none⟩=some (.int .i64 x.1.1)/\W.cell? ⟨g,0+k*3+1,none⟩=some (.int .u32 x.1.2)/\W.cell? ⟨g,0+k*3+2,none⟩=some (.string (bs x.2)):=by
 have hs:=h.src;rw [← hl] at hs;exact Z1 hs hx
theorem ziY {es:List MapEntry}{ws:List (MId×zy)}(h:vg idV es (ws.map λq=>(q.1,vo q.2))):(es.zip (ws.map (·.2))).map (·.1)=es/\(es.zip (ws.map (·.2))).map (·.2)=ws.map (·.2)/\∀e∈es,∃m,(e,m)∈es.zip (ws.map (·.2))/\e.val=vo m:=by
 induction es generalizing ws with
 |nil=>
  have:ws=[]:=by cases ws with|nil=>rfl|cons x l=>simp [vg] at h
  subst this;exact⟨rfl,rfl,λe he=>by cases he⟩
 |cons e es ih=>
  cases ws with
  |nil=>simp [vg] at h
  |cons q ws=>
   obtain⟨⟨h1,h2⟩,h3⟩:=vg.cons.1 h;obtain⟨i1,i2,i3⟩:=ih h3;refine⟨by simp only [List.map_cons,List.zip_cons_cons];rw [i1],by simp only [List.map_cons,List.zip_cons_cons];rw [i2],λe' he'=>?_⟩
   rcases List.mem_cons.1 he' with rfl|he'
   ·exact⟨q.2,List.mem_cons_self ..,h2⟩
   ·obtain⟨m,hm,hv⟩:=i3 e' he'
    exact⟨m,U7 _ hm,hv⟩
theorem zfb {a b:List zy}(h:a.Perm b)(hn:(b.map (·.1)).Nodup):qE a=qE b:=
 qH _ _ ((vD a).trans (h.trans (vD b).symm)) (qe a) (qe b) ((((vD a).trans h).map (·.1)).nodup_iff.2 hn)
theorem zcZ(cb B:Nat)(p:vU)(t:List Nat)(ow:Own)(hlen:p.waits.length<=1000000):
 XG Fence.wide 2 prog 295 #[.pointer (some ⟨cb,0,none⟩)] (λm:zy=> #[vo m])
  (λ(k:Nat) x=>(qE (p.waits.map (·.2)))[k]?=some x) (λk _=>k+1) (λk=>k=p.waits.length)
  (λ_ W=>Blk W cb #[.pointer (some ⟨B,0,none⟩)] 96/\jU B p t ow W) 0:=by
 intro lp J Jx W hJ hJx hRd hY h0;obtain⟨r0,hok,wb,db,hB,hv, -⟩:=hRd _ _ _ h0;have hwl:=hv.lt;obtain⟨es,ck,hes,hbears,hpw,hlt⟩:=hv;have hnd:(es.toList.map (·.born)).Nodup:=(List.pairwise_map.2 hpw).imp (λh=>by omega);obtain⟨z1,z2,z3⟩:=ziY hbears
 generalize hL:es.toList.zip (p.waits.map (·.2))=L at*
 have hLn:(L.map (·.1.born)).Nodup:=by rw [show L.map (·.1.born)=(L.map (·.1)).map (·.born)by simp,z1];exact hnd
 have hids:((p.waits.map (·.2)).map (·.1)).Nodup:=by
  have:(p.waits.map (·.2)).map (·.1)=p.waits.map (·.1):=by
   rw [List.map_map];exact List.map_congr_left (λq hq=>hok.1 q hq)
  rw [this];exact hok.2.1
 have hwlen:(p.waits.map (·.2)).length=p.waits.length:=by simp
 generalize p.waits.map (·.2)=ws at*
 generalize p.waits.length=n at*
 have hrg:=run_range_map (P:=prog) W 228 76 294 wb es ck Tryz.underlying228 hes;unfold xl at hB;have e0:=r0.cell;have eB:=hB.cell;clear r0 hB;replace hL:=hid hL;replace hwlen:=hid hwlen;replace hids:=hid hids;replace z1:=hid z1;replace z2:=hid z2;replace z3:=hid z3;replace hlt:=hid hlt;replace hes:=hid hes;have hF:Fence.wide.fn 295:=trivial;have hro:Fence.wide.round=none:=rfl;refine callsIn_of_wp func295 rfl hF ?_ hro;simp only [ntmps295,R8,Nat.reduceAdd,Nat.reduceSub]
 gi_wp2
 clear hrg e0 eB
 gi_loopw [3] (λp3 wr=>∃(acc:List zy)(seen:Array Nat),wr.heap[W.heap.size]?=some (.mapIter (some wb) ck seen ck)/\Below W.heap.size W wr/\(acc++vR L seen).Perm ws/\Row wr 294 3 p3 acc.length (acc.flatMap zh)/\(∀g,p3.ownBlock=some g->W.heap.size<g)) (λ_ wr=>(leftOf es (wr.iterSeen W.heap.size)).size)
 case atStart=>exact⟨[],#[],World.alloc_heap_new _ _,(N2 _ _).alloc (N0 _) _,by rw [zcX,z2.out];exact List.Perm.refl _,z7 _ _ _,by simp [Value.ownBlock]⟩
 case round=>
  obtain⟨acc,seen,hit,hbw,hperm,hrow,hown⟩:=hrel;have hb:wr.heap[wb]?=some (.map es ck):=(hbw.block wb hwl).trans hes.out;have hitl:=(N5.1 hit).1;have law:=run_next_at (P:=prog) wr 0 W.heap.size wb ck ck seen es ck hit hb hlt.out (N0 _)
  rcases law with⟨h0',hrun⟩|⟨e,he,w1,hw1,hrun⟩
  ·have hnx:∀ty,(Instr.next (.pointer (some ⟨W.heap.size,0,none⟩)) false ty).run prog wr=_:=λ_=>hrun
   clear hrun;have hall:=all_seen es seen h0';have hlm:vR L seen=[]:=zcY L seen (λq hq=>hall q.1 (by rw [← z1.out];exact List.mem_map.2 ⟨q,hq,rfl⟩));rw [hlm,List.append_nil] at hperm;have hsame:=zfb hperm hids.out;have hal:acc.length=n:=hperm.length_eq.trans hwlen.out;have hanod:(acc.map (·.1)).Nodup:=(hperm.map (·.1)).nodup_iff.2 hids.out;have hsl:(qE acc).length=n:=(vD acc).length_eq.trans hal;rw [← hsame] at hY;subst hal
   rcases hrow.form with⟨rfl,ha0, -⟩|⟨g,cap,rfl,hc1,hc2⟩
   ·obtain rfl:acc=[]:=N9 ha0
    have hJ2:J 0 (λ_=>False) wr:=hJ _ _ _ _ _ h0 (Mod.of_below _ hbw) (λk hk=>.inl hk);clear hrow hown;replace hnx:=hid hnx;replace hnx:=hnx.out
    gi_wp2_with fail
    refine(callsIn_wide.2 (zg8 _ _)).mono ?_;rintro e w2⟨rfl,hw2⟩;obtain rfl:=hw2.symm;clear hnx
    gi_wp2
    gi_loopw [25] (λp25 ws=>p25=.int .i64 0/\ws=wr) (λ_ _=>0)
    case atStart=>exact⟨rfl,rfl⟩
    case round=>
     obtain⟨rfl,rfl⟩:=hrel
     gi_wp2
     go_end0
     exact⟨⟨_,rfl⟩,.inl ⟨0,_,rfl,hJ2⟩⟩
   ·have hsort:=ziV g cap acc hanod (by omega) wr hrow
    have hgw:=hown g rfl;have hgl:=hrow.lt (g:=g) rfl;replace hsort:=hid hsort;clear hrow hown
    gi_wp2_with fail
    refine(callsIn_wide.2 hsort.out).mono ?_;rintro e W1⟨rfl,hmod,hrow1⟩;have hbw1:Below W.heap.size W W1:=hbw.trans (hmod.to_below (by omega) (λk _ e=>by omega));have hJ2:J 0 (λk=>k=g) W1:=hJ _ _ _ _ _ h0 (Mod.of_below _ hbw1) (λk hk=>by subst hk;right;have:=hmod.size;omega);clear hnx hsort;replace hrow1:=hid hrow1
    gi_wp2
    gi_loopw [25] (λp25 ws'=>∃(k:Nat)(X:Nat->Prop),p25=.int .i64 k/\k<=acc.length/\J k X ws'/\X g/\Row ws' 294 3 (.slice (some ⟨g,0,none⟩) acc.length cap) acc.length ((qE acc).flatMap zh)) (λp25 _=>acc.length - (intOf p25).toNat)
    case atStart=>exact⟨0,_,rfl,Nat.zero_le _,hJ2,rfl,hrow1.out⟩
    case round=>
     obtain⟨k,X,rfl,hk,hJs,hXg,hR⟩:=hrel
     by_cases hlk:k<acc.length
     ·obtain⟨x,hx⟩:∃x,(qE acc)[k]?=some x:=⟨_,N3 (by omega)⟩
      obtain⟨c0,c1,c2⟩:=ziX hR hsl hx;have hY':=hY k x _ _ (hJ.alloc (.cells (zh x).toArray 294) hJs) hx;have hgs:=hR.lt (g:=g) rfl;obtain⟨⟨xi,xc⟩,xd⟩:=x;simp only [zh] at c0 c1 c2 hY';obtain⟨fn,tmps,assign,body,hy,hRR⟩:=hY';unfold vo at hy;simp only [Nat.zero_add] at c0 c1 c2;replace hx:=hid hx;replace hR:=hid hR
      gi_wp2
      refine hRR.mono ?_;rintro e W'(⟨rfl,hJ',hsv⟩|⟨rfl,hx'⟩)
      ·clear c0 c1 c2 hRR hy
       have hRW:Row W' 294 3 (.slice (some ⟨g,0,none⟩) acc.length cap) acc.length ((qE acc).flatMap zh):=hR.out.kept (λg' hg'=>by
        cases hg'
        exact(hsv.2 g (.inl hXg) (by simp;omega)).trans (U4 _ _ _ hgs))
       gi_wp2
       go_roundw
       case rel=>exact⟨k+1,_,by go_num,by omega,hJ',.inl hXg,hRW⟩
       case measure=>simp [intOf];omega
      ·gi_wp2
       refine bodyPost_ret (results_none rfl _ _ _) rfl ?_;exact⟨⟨_,rfl⟩,.inr ⟨_,hx'⟩⟩
     ·obtain hkn:k=acc.length:=by omega
      replace hkn:=hid hkn;obtain rfl:=hkn.out;replace hR:=hid hR
      gi_wp2
      go_end0
      first|exact⟨⟨_,rfl⟩,.inl ⟨_,X,rfl,hJs⟩⟩|exact⟨⟨_,rfl⟩,.inl ⟨X,hJs⟩⟩
  ·obtain⟨hem,hes'⟩:=mem_left he
   obtain⟨m,hmL,hval⟩:=z3.out e hem;have hpush:=VW e m L seen hLn hmL hes';have hshr:=left_shrinks es seen e he;obtain⟨W2,hW2⟩:∃W2,W2=ChangeMaps.setBlock w1 W.heap.size (.mapIter (some wb) ck (seen.push e.born) ck):=⟨_,rfl⟩;have hw1b:Below wr.heap.size wr w1:=by rcases hw1 with rfl|rfl;exact N2 _ _;exact zo (N2 _ _)
   have hw1s:w1.heap.size=wr.heap.size:=by rcases hw1 with rfl|rfl<;>rfl
   have hm2:Mod (λk=>k=W.heap.size) wr W2:=by rw [hW2];exact(Mod.of_below (λk=>k=W.heap.size) hw1b).thenPut rfl _
   have hit2:W2.heap[W.heap.size]?=some (.mapIter (some wb) ck (seen.push e.born) ck):=by rw [hW2];exact World.putObj_heap_same (w:=w1) (by omega)
   have hs2:W2.heap.size=wr.heap.size:=by rw [hW2];show(w1.heap.setIfInBounds _ _).size=_;simp [hw1s]
   rw [← hW2,hval] at hrun;clear hW2 hw1b hw1s hw1;have hnx:∀ty,(Instr.next (.pointer (some ⟨W.heap.size,0,none⟩)) false ty).run prog wr=_:=λ_=>hrun
   clear hrun;have hb2:W2.heap[wb]?=some (.map es ck):=(hm2.block wb (by have:=hbw.size;omega) (by omega)).trans hb;have hen:=run_entry_at (P:=prog) W2 W.heap.size wb ck seen es ck e hit2 hb2 hem hnd;rw [hval] at hen;have hrow2:=hrow.mod hm2 (λg hg e=>by have:=hown g hg;omega);have hbw2:Below W.heap.size W W2:=hbw.trans (hm2.to_below hbw.size (λk _ e=>by omega))
   have hal:acc.length+1<=n:=by
    have h5:=hperm.length_eq;have h6:=hpush.length_eq;rw [N1,h6,List.length_cons,hwlen.out] at h5;omega
   have hper2:((acc++ [m])++vR L (seen.push e.born)).Perm ws:=by
    refine List.Perm.trans ?_ hperm;rw [List.append_assoc];exact(hpush.symm).append_left acc
   have hmes:(leftOf es (seen.push e.born)).size<(leftOf es (wr.iterSeen W.heap.size)).size:=by
    have:wr.iterSeen W.heap.size=seen:=by unfold World.iterSeen;rw [hit]
    rw [this];exact hshr
   obtain⟨⟨mi,mc⟩,md⟩:=m;obtain⟨va,vn,vc,rfl⟩:=hrow.shape;have hz1:(W2.alloc (.cells #[.int .i64 mi,.int .u32 mc,.string (bs md)] 294)).heap.size=W2.heap.size+1:=by simp
   obtain⟨v',W4,hrun,hrow4,hgr,hown4⟩:=zT zld ((hrow2.below ((N2 _ _).alloc (N0 _) (.cells #[.int .i64 mi,.int .u32 mc,.string (bs md)] 294))).below ((N2 _ _).alloc (N0 _) (.cells #[.int .i64 mi,.int .u32 mc,.string (bs md)] 294))) (jM (n:=1) (size:=3) (cap:=1) (Blk.new (w:=W2.alloc (.cells #[.int .i64 mi,.int .u32 mc,.string (bs md)] 294)) (cs:=#[.int .i64 mi,.int .u32 mc,.string (bs md)]) (t:=294) rfl) rfl (N0 1)) (jq [((mi,mc),md)]) (by omega) 436;rw [hz1] at hrun;obtain⟨sa,sm,sc,rfl⟩:=hrow4.shape;unfold vo at hnx hen;replace hrow:=hid hrow;replace hrow2:=hid hrow2;replace hrow4:=hid hrow4;replace hown:=hid hown;replace hown4:=hid hown4;replace hper2:=hid hper2;replace hpush:=hid hpush;replace hperm:=hid hperm;replace hmes:=hid hmes;replace hs2:=hid hs2;replace hrun:=hid hrun;replace hval:=hid hval
   gi_wp2_with (gi_at_builtin
                refine jQ rfl _ _ _ rfl rfl rfl hrun.out ?_)
   have hit4:W4.heap[W.heap.size]?=some (.mapIter (some wb) ck (seen.push e.born) ck):=
    (hgr.block _ (by simp;have:=hs2.out;omega) (λe=>by have:=hown.out _ e.symm;omega)).trans ((U4 _ _ _ (by simp;have:=hs2.out;omega)).trans ((U4 _ _ _ (by have:=hs2.out;omega)).trans hit2))
   go_roundw
   case rel=>
    refine⟨acc++ [((mi,mc),md)],seen.push e.born,hit4,?_,hper2.out,?_,λg hg=>?_⟩
    ·exact(((hbw2.alloc hbw2.size _).alloc (by simp;have:=hbw2.size;omega) _)).grown hgr (by simp;have:=hbw2.size;omega) (λj hj=>by have:=hown.out j hj;omega)
    ·rw [N1,U2,U5];exact hrow4.out
    ·have h5:=hown4.out
     rw [hg] at h5
     rcases h5 with h|h
     ·exact hown.out g h.symm
     ·simp at h;have:=hbw2.size;omega
   case measure=>
    have:W4.iterSeen W.heap.size=seen.push e.born:=by unfold World.iterSeen;rw [hit4]
    rw [this];exact hmes.out
end
open Go Go.RowKit Go.Shelf Go.Extern.Stop Go.Stop Go.Extern
attribute [local go_sem] Oper.semAt_some zv zm
structure VX(L:List zy)(mb lb:Nat)(most:Nat)(W0:World)(k:Nat)(v:Value)(X:Nat->Prop)(W:World):Prop where
 fr:Fr (λk=>k=lb) W0 X W
 kl:Blk W lb #[v] 42
 row:Row W 78 3 v (L.take k).length ((L.take k).flatMap zh)
 new:∀g,v.ownBlock=some g->W0.heap.size<=g/\¬X g
theorem VX.stab {L:List zy}{mb lb most:Nat}{W0:World}{k:Nat}{v:Value}{X X':Nat->Prop}{W W':World}(h:VX L mb lb most W0 k v X W)(hl:lb<W0.heap.size)(hm:Mod X W W')(hx:∀k,X' k->X k∨(W.heap.size<=k/\k<W'.heap.size)):VX L mb lb most W0 k v X' W' where
 fr:=h.fr.step hm hx
 kl:=h.kl.kept (h.fr.block hm hl)
 row:=h.row.mod hm (λg hg=>(h.new g hg).2)
 new:=λg hg=>⟨(h.new g hg).1,λhX=>by
  rcases hx g hX with h1|h1
  ·exact(h.new g hg).2 h1
  ·have:=h.row.lt hg;omega⟩
def VY(l:List zy)(w:World)(e:Ending)(w':World):Prop:=
 ∃v,e=.returned (.tuple #[v,.int .i64 0])/\Below w.heap.size w w'/\Row w' 78 3 v l.length (l.flatMap zh)/\∀g,v.ownBlock=some g->w.heap.size<=g
theorem zc0(B:Nat)(p:vU)(t:List Nat)(ow:Own)(most:Nat)(h1:1<=most)(h2:most<=64)(w:World)(h:jU B p t ow w):
 Calls prog 187 #[.pointer (some ⟨B,0,none⟩),.int .i64 most] w (VY (Ze p most) w):=by
 have hlen:p.waits.length<=1000000:=by have:=h.1.2.2;omega
 have hit:=λcb=>zcZ cb B p t ow hlen
 have hbp:Ze p most=(qE (p.waits.map (·.2))).take most:=rfl;have hsl:(qE (p.waits.map (·.2))).length=p.waits.length:=by rw [(vD _).length_eq];simp
 rw [hbp];have h0:=h;obtain⟨hok,wb,db,hB, -⟩:=h;have hnil:=λW hW=>Jy B wb db W hW
 unfold xl at hB hnil
 generalize qE (p.waits.map (·.2))=L at*
 have hpost:∀v W',Below w.heap.size w W'->Row W' 78 3 v (L.take most).length ((L.take most).flatMap zh)->(∀g,v.ownBlock=some g->w.heap.size<=g)->VY (L.take most) w (.returned (.tuple #[v,.int .i64 0])) W':=λv W' a b c=>⟨v,rfl,a,b,c⟩
 have t1:decide ((most:Int)<1)=false:=by simp;omega
 have t2:decide ((64:Int)<(most:Int))=false:=by simp;omega
 replace hpost:=hid hpost;replace hit:=hid hit;replace hnil:=hid hnil;replace h0:=hid h0;replace hbp:=hid hbp;replace hsl:=hid hsl;replace hB:=hid hB;refine zl func187 rfl ?_;simp only [ntmps187,R8,Nat.reduceAdd,Nat.reduceSub];go_wp2;go_step3;go_wp2_with fail
 refine(hnil.out _ (hB.out.alloc _)).mono ?_;rintro e w1⟨rfl,hw1⟩;obtain rfl:=hw1.symm;go_wp2;go_step3;go_wp2_with fail
 refine(zfa B _).mono ?_;rintro e w2⟨rfl,rfl⟩;go_wp2_with fail
 obtain⟨W0,hW0⟩:∃W0,W0=(((w.alloc (.cells #[.int .i64 most] 3)).alloc (.cells #[.slice none 0 0] 42)).alloc (.cells #[.pointer (some ⟨B,0,none⟩)] 96)):=⟨_,rfl⟩;have hsz:W0.heap.size=w.heap.size+3:=by rw [hW0];simp
 have hb0:Below w.heap.size w W0:=by rw [hW0];exact pbx
 have km0:Blk W0 w.heap.size #[.int .i64 most] 3:=by rw [hW0];exact bkx
 have kl0:Blk W0 (w.heap.size+1) #[.slice none 0 0] 42:=by rw [hW0];exact bkx
 have kc0:Blk W0 (w.heap.size+1+1) #[.pointer (some ⟨B,0,none⟩)] 96:=by rw [hW0];exact bkx
 rw [← hW0];clear hW0
 refine yS (gf:=295) (lb:=#[.pointer (some ⟨w.heap.size+1+1,0,none⟩)]) rfl (enters_of func295 (by kernel_rfl) rfl)
  (hit.out (w.heap.size+1+1)) (λ_=>rfl)
  (λk X W=>k<=most/\k<=L.length/\∃v,VX L w.heap.size (w.heap.size+1) most W0 k v X W)
  (λc X W=>c=.exit 0/\∃v,VX L w.heap.size (w.heap.size+1) most W0 most v X W)
  (λk X X' W W' h hm hx=>by obtain⟨a,b,v,h3⟩:=h;exact⟨a,b,v,h3.stab (by omega) hm hx⟩)
  (λc _ X X' W W' h hm hx=>by obtain⟨hc,v,h3⟩:=h;exact⟨hc,v,h3.stab (by omega) hm hx⟩)
  (λk X W h=>by obtain⟨a,b,v,h3⟩:=h;exact⟨kc0.mod h3.fr.2 (by omega),(jU.loc B p t).below h0.out (hb0.trans (h3.fr.below (by omega) (λk hk=>by omega)))⟩)
  (λk X W h=>by obtain⟨a,b,v,h3⟩:=h;exact⟨by have:=h3.fr.2.size;omega,λk hk=>(h3.fr.1 k hk).2⟩)
  ⟨Nat.zero_le _,Nat.zero_le _,.slice none 0 0,Fr.refl _ _,kl0,z7 _ _ _,by simp [Value.ownBlock]⟩
  7 78 (λx=> #[.int .i64 x.1.1,.int .u32 x.1.2,.string (bs x.2)]) ?assign ?body ?done ?stop
 case assign=>
  intro l' x W K hK;rw [zZ] at hK⊢;unfold vo at hK⊢
  gi_wp2
  exact hK
 case body=>
  rintro l' k x cb X X1 W1 W hI1⟨hkm,hkL,v,hI⟩ hnx hcb hcw hXc kx hXl _;obtain⟨hfr,kl,hrow,hnew⟩:=hI;obtain⟨⟨xi,xc⟩,xd⟩:=x;have km:=km0.mod hfr.2 (by omega);have em:=km.cell;have lm:=km.lt;have el:=kl.cell;have ll:=kl.lt;have hklt:=(N6.1 hnx).1;have htk:(L.take k).length=k:=by rw [N7];omega
  rw [zZ];unfold vo;simp only at kx;rw [htk] at hrow
  by_cases hkq:k=most
  ·subst hkq
   have t3:((k:Int)==(k:Int))=true:=by simp
   obtain⟨va,vc,rfl⟩:=hrow.src.shape;replace hrow:=hid hrow;replace hnew:=hid hnew;replace hnx:=hid hnx
   gi_wp2
   exact⟨⟨rfl,_,hfr,kl,by rw [htk];exact hrow.out,hnew.out⟩,jB.refl _ _⟩
  ·have t3:((k:Int)==(most:Int))=false:=by simp;omega
   obtain⟨va,vc,rfl⟩:=hrow.src.shape;have htk1:(L.take (k+1))=L.take k++ [((xi,xc),xd)]:=by rw [List.take_add_one,hnx];rfl
   have ex:=kx.cell;have hz0:=hfr.2.size;have hva:∀g,(Value.slice va k vc).ownBlock=some g->g≠w.heap.size+1:=λg hg=>by have:=(hnew g hg).1;omega
   have hxl:=kx.lt;obtain⟨v',W3,hrun,hrow3,hgr,hown⟩:=zT zcc (hrow.below ((N2 _ _).alloc (N0 _) (.cells #[.int .i64 xi,.int .u32 xc,.string (bs xd)] 78))) (jM (n:=1) (size:=3) (cap:=1) (Blk.new (w:=W) (cs:=#[.int .i64 xi,.int .u32 xc,.string (bs xd)]) (t:=78) rfl) rfl (N0 1)) (jq [((xi,xc),xd)]) (by omega) 42;have kl3:=(kl.alloc (.cells #[.int .i64 xi,.int .u32 xc,.string (bs xd)] 78)).kept (hgr.block _ (by simp;omega) (λe=>hva _ e.symm rfl));have fl3:=kl3.frozen;have el3:=kl3.cell;have ll3:=kl3.lt;obtain⟨sa,sm,sc,rfl⟩:=hrow3.shape;replace hrow:=hid hrow;replace hrow3:=hid hrow3;replace hown:=hid hown;replace hnew:=hid hnew;replace hva:=hid hva;replace hnx:=hid hnx;replace htk1:=hid htk1;replace hrun:=hid hrun
   gi_wp2_with (gi_at_builtin
                refine jQ rfl _ _ _ rfl rfl rfl hrun.out ?_)
   have hm4:Mod (λk'=>k'=w.heap.size+1∨(Value.slice va k vc).ownBlock=some k') W (W3.setCell ⟨w.heap.size+1,0,none⟩ (.slice sa sm sc)):=
    (((Mod.refl (λk'=>k'=w.heap.size+1∨(Value.slice va k vc).ownBlock=some k') W).thenAlloc (.cells #[.int .i64 xi,.int .u32 xc,.string (bs xd)] 78)).trans (Mod.grown (X:=λk'=>k'=w.heap.size+1∨(Value.slice va k vc).ownBlock=some k') hgr (λk h=>.inr h)) (λ_ _ e=>e) (λ_ _ e=>e)).thenSet (p:=⟨w.heap.size+1,0,none⟩) (.inl rfl) _
   have hg6:∀g,(Value.slice sa sm sc).ownBlock=some g->W0.heap.size<=g/\¬X g:=λg hg=>by
    have:=hown.out;rw [hg] at this
    rcases this with h|h
    ·exact hnew.out g h.symm
    ·simp at h;subst h;exact⟨by omega,λhX=>by have:=(hfr.1 _ hX).2;omega⟩
   refine⟨⟨by omega,by omega,.slice sa sm sc,hfr.mod hm4 (λk hk h=>?_),kl3.set (o:=0) _,?_,hg6⟩,jB.of_mod hm4 (λk hk hX h=>?_)⟩
   ·rcases h with h|h
    ·exact h
    ·have:=(hnew.out k h).1;omega
   ·rw [htk1.out,N1,htk,U2,U5]
    refine Row.kept (w:=W3) hrow3.out (λg hg=>?_);have:=(hg6 g hg).1;exact N4 _ _ _ _ (show g≠w.heap.size+1 by omega)
   ·have:=hfr.1 k hX
    rcases h with h|h
    ·omega
    ·exact(hnew.out k h).2 hX
 case done=>
  rintro D k X W hD hXD hfin⟨hkm,hkL,v,hI⟩ hdef;have hfin':k=p.waits.length:=hfin;have hLk:L.take most=L.take k:=by rw [List.take_of_length_le (by have:=hsl.out;omega),List.take_of_length_le (by have:=hsl.out;omega)]
  obtain⟨hfr,kl,hrow,hnew⟩:=hI;rw [← hLk] at hrow;have hbW:Below w.heap.size w W:=hb0.trans (hfr.below (by omega) (λk hk=>by omega));have el:=kl.cell;have hne:∀g,v.ownBlock=some g->g≠D:=λg hg e=>by subst e;obtain⟨cur,hc⟩:=hrow.type hg;rw [hdef] at hc;cases hc
  have hnw:∀g,v.ownBlock=some g->w.heap.size<=g:=λg hg=>by have:=(hnew g hg).1;omega
  replace hrow:=hid hrow;clear hnew;go_wp2;rw [Exit.noGoto_ret];exact z8 (D:=D) (v:=.tuple #[v,.int .i64 0]) hdef (by simp [results,Tryz.results187,go_sem]) (hpost.out _ _ (zN hbW (by omega) _) (hrow.out.kept (λg hg=>U1 (hne g hg))) hnw)
 case stop=>
  rintro D c X W hD hXD⟨rfl,v,hI⟩ hdef;obtain⟨hfr,kl,hrow,hnew⟩:=hI;have hbW:Below w.heap.size w W:=hb0.trans (hfr.below (by omega) (λk hk=>by omega));have el:=kl.cell;have hne:∀g,v.ownBlock=some g->g≠D:=λg hg e=>by subst e;obtain⟨cur,hc⟩:=hrow.type hg;rw [hdef] at hc;cases hc
  have hnw:∀g,v.ownBlock=some g->w.heap.size<=g:=λg hg=>by have:=(hnew g hg).1;omega
  replace hrow:=hid hrow;clear hnew;go_wp2;rw [Exit.noGoto_ret];exact z8 (D:=D) (v:=.tuple #[v,.int .i64 0]) hdef (by simp [results,Tryz.results187,go_sem]) (hpost.out _ _ (zN hbW (by omega) _) (hrow.out.kept (λg hg=>U1 (hne g hg))) hnw)
