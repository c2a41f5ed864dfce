/- PARTS OF THE PROOF. -/
import Derived.Maps.RangeRun
import Derived.Test.YtobnhnidffipjaaGreatDoorQ17
set_option maxRecDepth 8000
set_option maxHeartbeats 4000000
open Go.Proofs.Tryz
namespace Go.Proofs.YtobnhnidffipjaaGreatDoor
section
open Go Go.RowKit Go.Shelf Go.Extern.Stop Go.Stop Go.Extern Go.Lib Go.Sort
attribute [local go_sem] Oper.semAt_some zw zn
theorem Q7(x y:zD):ltOf zjg x y=(decide (x.1.1<y.1.1)||(decide (x.1.1=y.1.1)&& decide (x.1.2<y.1.2))):=by
 obtain⟨⟨xi,xc⟩,xd⟩:=x;obtain⟨⟨yi,yc⟩,yd⟩:=y;unfold ltOf zjg Lib.compareInt;simp only
 by_cases h1:xi<yi
 ·simp [h1]
 ·by_cases h2:yi<xi
  ·have:¬xi=yi:=by omega
   simp [h1,h2,this]
  ·have h3:xi=yi:=by omega
   subst h3
   by_cases h4:(xc:Int)<yc
   ·have:xc<yc:=by omega
    simp [h4,this]
   ·by_cases h5:(yc:Int)<xc
    ·have:¬xc<yc:=by omega
     simp [h4,h5,this]
    ·have:¬xc<yc:=by omega
     simp [h4,h5,this]
theorem zld:SWO (ltOf zjg) where
 irrefl x:=by rw [Q7];simp
 trans x y z h1 h2:=by
  rw [Q7] at*;simp only [Bool.or_eq_true,Bool.and_eq_true,decide_eq_true_eq] at*;omega
 ntrans x y z h1 h2:=by
  rw [Q7] at*;simp only [Bool.or_eq_false_iff,Bool.and_eq_false_iff,decide_eq_false_iff_not] at*;omega
theorem ze7 {a b:zD}(h:ltOf zjg b a=false):ltM a b=true:=by
 rw [Q7] at h;simp only [Bool.or_eq_false_iff,Bool.and_eq_false_iff,decide_eq_false_iff_not] at h;unfold ltM;simp only [Bool.or_eq_true,Bool.and_eq_true,decide_eq_true_eq];omega
theorem zbl {a b:zD}(h:ltM a b=true)(k:ltM b a=true):a.1=b.1:=by
 unfold ltM at h k;simp only [Bool.or_eq_true,Bool.and_eq_true,decide_eq_true_eq] at h k
 apply Prod.ext<;>omega
theorem zgZ(a b:zD)(h:ltM a b=false):ltM b a=true:=by
 unfold ltM at*;simp only [Bool.or_eq_false_iff,Bool.and_eq_false_iff,decide_eq_false_iff_not,Bool.or_eq_true,Bool.and_eq_true,decide_eq_true_eq] at*;omega
theorem zg0 {a b c:zD}(h:ltM a b=true)(k:ltM b c=true):ltM a c=true:=by
 unfold ltM at*;simp only [Bool.or_eq_true,Bool.and_eq_true,decide_eq_true_eq] at*;omega
theorem VW(m:zD):∀l,(zjB m l).Perm (m::l)
 | []=>List.Perm.refl _
 |x::l=>by
  unfold zjB
  split
  ·exact List.Perm.refl _
  ·exact((VW m l).cons x).trans (List.Perm.swap m x l)
theorem vw:∀l,(Zf l).Perm l
 | []=>List.Perm.refl _
 |x::l=>(VW x (Zf l)).trans ((vw l).cons x)
theorem VX(m:zD):∀l:List zD,l.Pairwise (λa b=>ltM a b=true)->(zjB m l).Pairwise (λa b=>ltM a b=true)
 | [],_=>by simp [zjB]
 |x::l,h=>by
  unfold zjB
  split
  ·rename_i hx
   refine List.pairwise_cons.2 ⟨λy hy=>?_,h⟩
   rcases List.mem_cons.1 hy with rfl|hy
   ·exact hx
   ·exact zg0 hx ((List.pairwise_cons.1 h).1 y hy)
  ·rename_i hx
   have hx':ltM x m=true:=zgZ m x (by simpa using hx);refine List.pairwise_cons.2 ⟨λy hy=>?_,VX m l (List.pairwise_cons.1 h).2⟩
   rcases List.mem_cons.1 ((VW m l).mem_iff.1 hy)with rfl|hy
   ·exact hx'
   ·exact(List.pairwise_cons.1 h).1 y hy
theorem qj:∀l:List zD,(Zf l).Pairwise (λa b=>ltM a b=true)
 | []=>List.Pairwise.nil
 |x::l=>VX x _ (qj l)
theorem qI:∀(a b:List zD),a.Perm b->a.Pairwise (λa b=>ltM a b=true)->b.Pairwise (λa b=>ltM a b=true)->(a.map (·.1)).Nodup->a=b
 | [],b,h,_,_,_=>(List.nil_perm.1 h).symm ▸ rfl
 |x::a,[],h,_,_,_=>by cases List.perm_nil.1 h
 |x::a,y::b,h,ha,hb,hn=>by
  have hxb:x∈y::b:=h.mem_iff.1 (List.mem_cons_self ..);have hya:y∈x::a:=h.mem_iff.2 (List.mem_cons_self ..)
  have hxy:x=y:=by
   rcases List.mem_cons.1 hya with e|hy
   ·exact e.symm
   ·rcases List.mem_cons.1 hxb with e|hx
    ·exact e
    ·have h1:=(List.pairwise_cons.1 ha).1 y hy
     have h2:=(List.pairwise_cons.1 hb).1 x hx;have h3:=zbl h1 h2;have h4:=(List.nodup_cons.1 hn).1;exact absurd (List.mem_map.2 ⟨y,hy,h3.symm⟩) h4
  subst hxy;rw [qI a b ((List.perm_cons x).1 h) (List.pairwise_cons.1 ha).2 (List.pairwise_cons.1 hb).2 (List.nodup_cons.1 hn).2]
theorem Qj(l:List zD):flatK zh 3 l.toArray=(l.flatMap zh).toArray:=by
 have hlen:(l.flatMap zh).length=l.length*3:=by
  induction l with
  |nil=>rfl
  |cons x l ih=>rw [List.flatMap_cons,N1,ih,List.length_cons];simp [zh];omega
 apply Array.ext
 ·simp [hlen]
 ·intro t h1 h2
  have ht:t<l.length*3:=by simpa using h1
  have hk:t / 3<l.length:=by omega
  have hx:l[t / 3]?=some l[t / 3]:=N3 hk;have hf:=Zy l (t / 3) _ hx (t % 3) (Nat.mod_lt _ (by omega));rw [show t / 3*3+t % 3=t by omega] at hf
  have h3:(l.flatMap zh)[t]?=some ((l.flatMap zh).toArray[t]):=by
   rw [N3 (by rw [hlen];exact ht)];simp
  have hget:=get_flatK zh 3 l.toArray t (by simpa using ht);rw [getElem!_pos _ t h1] at hget;rw [hget];rw [h3] at hf;have h4:l.toArray[t / 3]! =l[t / 3]:=by rw [getElem!_pos _ _ (by simpa using hk)];simp
  rw [h4];have hlt:t % 3<(zh l[t / 3]).length:=by simp [zh];omega
  rw [N3 hlt] at hf;rw [getElem!_pos (zh l[t / 3]) (t % 3) hlt];exact(Option.some.inj hf).symm
theorem zkP:Ju prog 365 253 3 32 (.agg #[.int .i64 0,.int .u32 0,.string ⟨#[]⟩]):=⟨Tryz.underlying365,by kernel_rfl,rfl,by decide,by decide⟩
theorem ze8 {W:World}{g n:Nat}{cur:Array Value}{e:TypeId}(hg:W.heap[g]?=some (.cells cur e (0,0)))(hs:n*3<=cur.size)(l:List zD)(hl:l.length=n)(m:Nat)(os:Array Obj):
 Mod (λk=>k=g) W (sortWorldK zh 3 W g 0 m l.toArray os)/\∃cur',(sortWorldK zh 3 W g 0 m l.toArray os).heap[g]?=some (.cells cur' e (0,0))/\cur'.size=cur.size/\cur'.toList.take (n*3)=l.flatMap zh:=by
 have hlen:(l.flatMap zh).length=n*3:=by
  rw [← hl];clear hl hs
  induction l with
  |nil=>rfl
  |cons x l ih=>rw [List.flatMap_cons,N1,ih,List.length_cons];simp [zh];omega
 have hgl:g<W.heap.size:=(N5.1 hg).1
 have hheap:(sortWorldK zh 3 W g 0 m l.toArray os).heap=(W.heap.modify g (onCells (putCells id 0 (l.flatMap zh).toArray)))++os:=by
  rw [← Qj];rfl
 refine⟨⟨rfl,rfl,rfl,by rw [hheap];simp,λk hk hn=>?_⟩,putCells id 0 (l.flatMap zh).toArray cur,?_,by simp [putCells],?_⟩
 ·rw [hheap,Array.getElem?_append_left (by simpa using hk),Array.getElem?_modify,if_neg (λe=>hn e.symm)]
 ·rw [hheap,Array.getElem?_append_left (by simpa using hgl),Array.getElem?_modify,if_pos rfl,hg];rfl
 ·apply List.ext_getElem?
  intro k;rw [List.getElem?_take]
  by_cases hk:k<n*3
  ·rw [if_pos hk]
   have hkc:k<cur.size:=by omega
   have hkl:k<(l.flatMap zh).length:=by omega
   unfold putCells;rw [Array.getElem?_toList,Array.getElem?_mapIdx,Array.getElem?_eq_getElem hkc,Option.map_some,if_pos (by rw [List.size_toArray,hlen];omega)];rw [Nat.sub_zero,getElem!_pos (l.flatMap zh).toArray k (by simpa using hkl),N3 hkl];simp
  ·rw [if_neg hk,List.getElem?_eq_none (by omega)]
def ziz(g cap:Nat)(l:List zD)(W:World)(e:Ending)(W':World):Prop:=
 e=.returned (.tuple #[])/\Mod (λk=>k=g) W W'/\Row W' 253 3 (.slice (some ⟨g,0,none⟩) l.length cap) l.length ((Zf l).flatMap zh)
theorem ziA(g cap:Nat)(l:List zD)(hn:(l.map (·.1)).Nodup)(hl:l.length<=1073741824)(W:World)(h:Row W 253 3 (.slice (some ⟨g,0,none⟩) l.length cap) l.length (l.flatMap zh)):
 Calls prog 229 #[.slice (some ⟨g,0,none⟩) l.length cap,.func (.func 230) #[] #[]] W (ziz g cap l W):=by
 rcases h.2 with⟨h0, -⟩|⟨g',cap',cur,h0, -,hg,hc,hm,hs,ht⟩
 ·cases h0
 cases h0
 have eg:∀args w,(callFunc 230 args).run prog w=.ok (.enter 230 args) w:=enters_of func230 (by kernel_rfl) rfl;have hlen:(l.flatMap zh).length=l.length*3:=h.1
 have hH:HoldsK zh 3 W g 0 l.toArray:=by
  unfold HoldsK;rw [Qj];intro j hj;have hj':j<(l.flatMap zh).length:=by simpa using hj
  have hB:Blk W g cur 253:=hg;refine⟨?_,by rw [hB.frozen]⟩;rw [hB.cell,Nat.zero_add];have h1:(l.flatMap zh)[j]?=cur[j]?:=by rw [← ht,List.getElem?_take,if_pos (by omega)];simp
  rw [← h1,N3 hj',getElem!_pos (l.flatMap zh).toArray j hj];simp
 have hcon:=AnyQ.slices_SortFunc Tryz.sortPend 3 Tryz.isAgg253 Tryz.sizeOf253 zh (λ_=>rfl) (λx v hv=>by simp [zh] at hv;rcases hv with rfl|rfl|rfl<;>rfl) zjg zld 230 #[] g 0 cap l.toArray W eg (zjL g 0 l.toArray.size W) hH (N5.1 hg).1 (by simp;omega)
 change Calls prog 229 _ _ _ at hcon
 refine hcon.mono ?_;rintro e W'⟨rfl,d',n,os,hp,hso,rfl⟩;obtain⟨l',rfl⟩:∃l':List zD,d'=l'.toArray:=⟨d'.toList,by simp⟩;have hsz:l'.length=l.length:=by simpa using hp.1
 have hperm:l'.Perm l:=by
  have h3:(l'.take l.length).Perm l:=by simpa [hsz] using hp.2.2
  rwa [List.take_of_length_le (by omega)] at h3
 have hsorted:l'.Pairwise (λa b=>ltM a b=true):=by
  rw [List.pairwise_iff_getElem];intro i j hi hj hij;have h4:=hso i j (Nat.zero_le _) hij (by simp;omega);rw [getElem!_pos l'.toArray j (by simpa using hj),getElem!_pos l'.toArray i (by simpa using hi)] at h4;exact ze7 (by simpa using h4)
 have heq:l'=Zf l:=qI l' (Zf l) (hperm.trans (vw l).symm) hsorted (qj l) ((hperm.map (·.1)).nodup_iff.2 hn);obtain⟨hmod,cur',hcur,hcs,hct⟩:=ze8 hg (by omega) l' hsz n os;refine⟨rfl,hmod,?_,.inr ⟨g,cap,cur',rfl,Nat.zero_le _,hcur,hc,hm,by omega,?_⟩⟩
 ·rw [← hlen];exact((vw l).flatMap_right zh).length_eq
 ·rw [hct,heq]
end
section
open Go Go.RowKit Go.Shelf Go.Extern.Stop Go.Stop Go.Extern Go.Lib
attribute [local go_sem] Oper.semAt_some zw zn
theorem XN(cf:Value)(w:World):Calls prog 271 #[.slice none 0 0,.int .i64 0,.int .i64 0,cf] w λe w'=>e=.returned (.tuple #[])/\w'=w:=by
 go_enter func271,ntmps271
 go_wp2
 go_loop [8] (λp8=>p8=.int .i64 1) (λ_=>0)
 case atStart=>rfl
 case round=>
  subst hrel;go_wp2;go_end0
  exact⟨rfl,rfl⟩
theorem ziB(cf:Value)(n:Int)(w:World):Calls prog 261 #[.slice none 0 0,.int .i64 0,.int .i64 0,.int .i64 n,cf] w λe w'=>e=.returned (.tuple #[])/\w'=w:=by
 go_enter func261,ntmps261
 go_wp2
 go_loop [1,2] (λp1 p2=>p1=.int .i64 0/\p2=.int .i64 0) (λ_ _=>0)
 case atStart=>exact⟨rfl,rfl⟩
 case round=>
  obtain⟨rfl,rfl⟩:=hrel;go_wp2_with fail
  refine(XN _ _).mono ?_;rintro e w1⟨rfl,hw1⟩;obtain rfl:=hw1.symm;go_wp2;refine bodyPost_ret (results_none rfl _ _ _) rfl ?_;exact⟨rfl,rfl⟩
theorem zg1(cf:Value)(w:World):Calls prog 229 #[.slice none 0 0,cf] w λe w'=>e=.returned (.tuple #[])/\w'=w:=by
 have hb:=λW=>Tryz.bits_Len 0 W (by omega) (by omega)
 replace hb:=G hb
 go_enter func229,ntmps229
 go_wp2_with fail
 refine(hb.out _).mono ?_;rintro e w1⟨rfl,hw1⟩;obtain rfl:=hw1.symm;go_wp2_with fail
 refine(ziB _ _ _).mono ?_;rintro e w2⟨rfl,hw2⟩;obtain rfl:=hw2.symm;go_wp2;go_end0
 exact⟨rfl,rfl⟩
def vR(L:List (MapEntry×zD))(seen:Array Nat):List zD:=(L.filter λq=> !seen.contains q.1.born).map (·.2)
theorem zcR(L:List (MapEntry×zD)):vR L #[]=L.map (·.2):=by
 unfold vR;rw [List.filter_eq_self.2];intro q _;simp
theorem Yn(q:MapEntry×zD)(L:List (MapEntry×zD))(seen:Array Nat)(h:seen.contains q.1.born=false):vR (q::L) seen=q.2::vR L seen:=by
 unfold vR;rw [List.filter_cons_of_pos (by rw [h];rfl)];rfl
theorem VY(q:MapEntry×zD)(L:List (MapEntry×zD))(seen:Array Nat)(h:seen.contains q.1.born=true):vR (q::L) seen=vR L seen:=by
 unfold vR;rw [List.filter_cons_of_neg (by rw [h];simp)]
theorem VZ(e:MapEntry)(m:zD):∀(L:List (MapEntry×zD)) (seen:Array Nat),(L.map (·.1.born)).Nodup->(e,m)∈L->seen.contains e.born=false->(vR L seen).Perm (m::vR L (seen.push e.born))
 | [],seen,_,h,_=>by cases h
 |q::L,seen,hn,h,hs=>by
  have hn':=List.nodup_cons.1 hn
  rcases List.mem_cons.1 h with h|h
  ·subst h
   have hrest:vR L (seen.push e.born)=vR L seen:=by
    unfold vR
    congr 1
    apply List.filter_congr
    intro q hq;have hne:q.1.born≠e.born:=λe'=>hn'.1 (List.mem_map.2 ⟨q,hq,e'⟩)
    rw [contains_push];simp [hne]
   rw [Yn (e,m) L seen hs,VY (e,m) L (seen.push e.born) (by rw [contains_push];simp),hrest]
  ·have ih:=VZ e m L seen hn'.2 h hs
   have hne:q.1.born≠e.born:=λe'=>hn'.1 (List.mem_map.2 ⟨(e,m),h,e'.symm⟩)
   cases hx:seen.contains q.1.born
   ·rw [Yn q L seen hx,Yn q L (seen.push e.born) (by rw [contains_push,hx];simp [hne])]
    exact(ih.cons q.2).trans (List.Perm.swap _ _ _)
   ·rw [VY q L seen hx,VY q L (seen.push e.born) (by rw [contains_push,hx];rfl)]
    exact ih
theorem zcS(L:List (MapEntry×zD))(seen:Array Nat)(h:∀q∈L,seen.contains q.1.born=true):vR L seen=[]:=by
 unfold vR;rw [List.filter_eq_nil_iff.2]
 ·rfl
 ·intro q hq;rw [h q hq];simp
theorem ze9(B:Nat)(w:World):Calls prog 188 #[.pointer (some ⟨B,0,none⟩)] w λe w'=>
 e=.returned (.func (.func 228) #[] #[.pointer (some ⟨w.heap.size,0,none⟩)])/\w'=w.alloc (.cells #[.pointer (some ⟨B,0,none⟩)] 93):=by
 go_enter func188,ntmps188
 go_wp2;go_ret
 exact⟨rfl,rfl⟩
theorem ziC {W:World}{l:List zD}{g n cap:Nat}(h:Row W 253 3 (.slice (some ⟨g,0,none⟩) n cap) n (l.flatMap zh))(hl:l.length=n){k:Nat}{x:zD}(hx:l[k]?=some x):
 W.cell? ⟨g,0+k*3,none⟩=some (.int .i64 x.1.1)/\W.cell? ⟨g,0+k*3+1,none⟩=some (.int .u32 x.1.2)/\W.cell? ⟨g,0+k*3+2,none⟩=some (.string (bs x.2)):=by
 have hs:=h.src;rw [← hl] at hs;exact Z4 hs hx
theorem ziD {es:List MapEntry}{ws:List (MId×zD)}(h:yZ idV es (ws.map λq=>(q.1,vz q.2))):(es.zip (ws.map (·.2))).map (·.1)=es/\(es.zip (ws.map (·.2))).map (·.2)=ws.map (·.2)/\∀e∈es,∃m,(e,m)∈es.zip (ws.map (·.2))/\e.val=vz m:=by
 induction es generalizing ws with
 |nil=>
  have:ws=[]:=by cases ws with|nil=>rfl|cons x l=>simp [yZ] at h
  subst this;exact⟨rfl,rfl,λe he=>by cases he⟩
 |cons e es ih=>
  cases ws with
  |nil=>simp [yZ] at h
  |cons q ws=>
   obtain⟨⟨h1,h2⟩,h3⟩:=yZ.cons.1 h;obtain⟨i1,i2,i3⟩:=ih h3;refine⟨by simp only [List.map_cons,List.zip_cons_cons];rw [i1],by simp only [List.map_cons,List.zip_cons_cons];rw [i2],λe' he'=>?_⟩
   rcases List.mem_cons.1 he' with rfl|he'
   ·exact⟨q.2,List.mem_cons_self ..,h2⟩
   ·obtain⟨m,hm,hv⟩:=i3 e' he'
    exact⟨m,U7 _ hm,hv⟩
theorem zfa {a b:List zD}(h:a.Perm b)(hn:(b.map (·.1)).Nodup):Zf a=Zf b:=
 qI _ _ ((vw a).trans (h.trans (vw b).symm)) (qj a) (qj b) ((((vw a).trans h).map (·.1)).nodup_iff.2 hn)
theorem zcT(cb B:Nat)(p:xL)(t:List Nat)(ow:Own)(hlen:p.waits.length<=1000000):
 XE Fence.wide 2 prog 228 #[.pointer (some ⟨cb,0,none⟩)] (λm:zD=> #[vz m])
  (λ(k:Nat) x=>(Zf (p.waits.map (·.2)))[k]?=some x) (λk _=>k+1) (λk=>k=p.waits.length)
  (λ_ W=>Blk W cb #[.pointer (some ⟨B,0,none⟩)] 93/\jO B p t ow W) 0:=by
 intro lp J Jx W hJ hJx hRd hY h0;obtain⟨r0,hok,wb,db,hB,hv, -⟩:=hRd _ _ _ h0;have hwl:=hv.lt;obtain⟨es,ck,hes,hbears,hpw,hlt⟩:=hv;have hnd:(es.toList.map (·.born)).Nodup:=(List.pairwise_map.2 hpw).imp (λh=>by omega);obtain⟨z1,z2,z3⟩:=ziD hbears
 generalize hL:es.toList.zip (p.waits.map (·.2))=L at*
 have hLn:(L.map (·.1.born)).Nodup:=by rw [show L.map (·.1.born)=(L.map (·.1)).map (·.born)by simp,z1];exact hnd
 have hids:((p.waits.map (·.2)).map (·.1)).Nodup:=by
  have:(p.waits.map (·.2)).map (·.1)=p.waits.map (·.1):=by
   rw [List.map_map];exact List.map_congr_left (λq hq=>hok.1 q hq)
  rw [this];exact hok.2.1
 have hwlen:(p.waits.map (·.2)).length=p.waits.length:=by simp
 generalize p.waits.map (·.2)=ws at*
 generalize p.waits.length=n at*
 have hrg:=run_range_map (P:=prog) W 192 32 253 wb es ck Tryz.underlying192 hes;unfold xg at hB;have e0:=r0.cell;have eB:=hB.cell;clear r0 hB;replace hL:=G hL;replace hwlen:=G hwlen;replace hids:=G hids;replace z1:=G z1;replace z2:=G z2;replace z3:=G z3;replace hlt:=G hlt;replace hes:=G hes;have hF:Fence.wide.fn 228:=trivial;have hro:Fence.wide.round=none:=rfl;refine callsIn_of_wp func228 rfl hF ?_ hro;simp only [ntmps228,R8,Nat.reduceAdd,Nat.reduceSub]
 gi_wp2
 clear hrg e0 eB
 gi_loopw [3] (λp3 wr=>∃(acc:List zD)(seen:Array Nat),wr.heap[W.heap.size]?=some (.mapIter (some wb) ck seen ck)/\Below W.heap.size W wr/\(acc++vR L seen).Perm ws/\Row wr 253 3 p3 acc.length (acc.flatMap zh)/\(∀g,p3.ownBlock=some g->W.heap.size<g)) (λ_ wr=>(leftOf es (wr.iterSeen W.heap.size)).size)
 case atStart=>exact⟨[],#[],World.alloc_heap_new _ _,(N2 _ _).alloc (N0 _) _,by rw [zcR,z2.out];exact List.Perm.refl _,zX _ _ _,by simp [Value.ownBlock]⟩
 case round=>
  obtain⟨acc,seen,hit,hbw,hperm,hrow,hown⟩:=hrel;have hb:wr.heap[wb]?=some (.map es ck):=(hbw.block wb hwl).trans hes.out;have hitl:=(N5.1 hit).1;have law:=run_next_at (P:=prog) wr 0 W.heap.size wb ck ck seen es ck hit hb hlt.out (N0 _)
  rcases law with⟨h0',hrun⟩|⟨e,he,w1,hw1,hrun⟩
  ·have hnx:∀ty,(Instr.next (.pointer (some ⟨W.heap.size,0,none⟩)) false ty).run prog wr=_:=λ_=>hrun
   clear hrun;have hall:=all_seen es seen h0';have hlm:vR L seen=[]:=zcS L seen (λq hq=>hall q.1 (by rw [← z1.out];exact List.mem_map.2 ⟨q,hq,rfl⟩));rw [hlm,List.append_nil] at hperm;have hsame:=zfa hperm hids.out;have hal:acc.length=n:=hperm.length_eq.trans hwlen.out;have hanod:(acc.map (·.1)).Nodup:=(hperm.map (·.1)).nodup_iff.2 hids.out;have hsl:(Zf acc).length=n:=(vw acc).length_eq.trans hal;rw [← hsame] at hY;subst hal
   rcases hrow.form with⟨rfl,ha0, -⟩|⟨g,cap,rfl,hc1,hc2⟩
   ·obtain rfl:acc=[]:=N9 ha0
    have hJ2:J 0 (λ_=>False) wr:=hJ _ _ _ _ _ h0 (Mod.of_below _ hbw) (λk hk=>.inl hk);clear hrow hown;replace hnx:=G hnx;replace hnx:=hnx.out
    gi_wp2_with fail
    refine(callsIn_wide.2 (zg1 _ _)).mono ?_;rintro e w2⟨rfl,hw2⟩;obtain rfl:=hw2.symm;clear hnx
    gi_wp2
    gi_loopw [25] (λp25 ws=>p25=.int .i64 0/\ws=wr) (λ_ _=>0)
    case atStart=>exact⟨rfl,rfl⟩
    case round=>
     obtain⟨rfl,rfl⟩:=hrel
     gi_wp2
     go_end0
     exact⟨⟨_,rfl⟩,.inl ⟨0,_,rfl,hJ2⟩⟩
   ·have hsort:=ziA g cap acc hanod (by omega) wr hrow
    have hgw:=hown g rfl;have hgl:=hrow.lt (g:=g) rfl;replace hsort:=G hsort;clear hrow hown
    gi_wp2_with fail
    refine(callsIn_wide.2 hsort.out).mono ?_;rintro e W1⟨rfl,hmod,hrow1⟩;have hbw1:Below W.heap.size W W1:=hbw.trans (hmod.to_below (by omega) (λk _ e=>by omega));have hJ2:J 0 (λk=>k=g) W1:=hJ _ _ _ _ _ h0 (Mod.of_below _ hbw1) (λk hk=>by subst hk;right;have:=hmod.size;omega);clear hnx hsort;replace hrow1:=G hrow1
    gi_wp2
    gi_loopw [25] (λp25 ws'=>∃(k:Nat)(X:Nat->Prop),p25=.int .i64 k/\k<=acc.length/\J k X ws'/\X g/\Row ws' 253 3 (.slice (some ⟨g,0,none⟩) acc.length cap) acc.length ((Zf acc).flatMap zh)) (λp25 _=>acc.length - (intOf p25).toNat)
    case atStart=>exact⟨0,_,rfl,Nat.zero_le _,hJ2,rfl,hrow1.out⟩
    case round=>
     obtain⟨k,X,rfl,hk,hJs,hXg,hR⟩:=hrel
     by_cases hlk:k<acc.length
     ·obtain⟨x,hx⟩:∃x,(Zf acc)[k]?=some x:=⟨_,N3 (by omega)⟩
      obtain⟨c0,c1,c2⟩:=ziC hR hsl hx;have hY':=hY k x _ _ (hJ.alloc (.cells (zh x).toArray 253) hJs) hx;have hgs:=hR.lt (g:=g) rfl;obtain⟨⟨xi,xc⟩,xd⟩:=x;simp only [zh] at c0 c1 c2 hY';obtain⟨fn,tmps,assign,body,hy,hRR⟩:=hY';unfold vz at hy;simp only [Nat.zero_add] at c0 c1 c2;replace hx:=G hx;replace hR:=G hR
      gi_wp2
      refine hRR.mono ?_;rintro e W'(⟨rfl,hJ',hsv⟩|⟨rfl,hx'⟩)
      ·clear c0 c1 c2 hRR hy
       have hRW:Row W' 253 3 (.slice (some ⟨g,0,none⟩) acc.length cap) acc.length ((Zf acc).flatMap zh):=hR.out.kept (λg' hg'=>by
        cases hg'
        exact(hsv.2 g (.inl hXg) (by simp;omega)).trans (U4 _ _ _ hgs))
       gi_wp2
       go_roundw
       case rel=>exact⟨k+1,_,by go_num,by omega,hJ',.inl hXg,hRW⟩
       case measure=>simp [intOf];omega
      ·gi_wp2
       refine bodyPost_ret (results_none rfl _ _ _) rfl ?_;exact⟨⟨_,rfl⟩,.inr ⟨_,hx'⟩⟩
     ·obtain hkn:k=acc.length:=by omega
      replace hkn:=G hkn;obtain rfl:=hkn.out;replace hR:=G hR
      gi_wp2
      go_end0
      first|exact⟨⟨_,rfl⟩,.inl ⟨_,X,rfl,hJs⟩⟩|exact⟨⟨_,rfl⟩,.inl ⟨X,hJs⟩⟩
  ·obtain⟨hem,hes'⟩:=mem_left he
   obtain⟨m,hmL,hval⟩:=z3.out e hem;have hpush:=VZ e m L seen hLn hmL hes';have hshr:=left_shrinks es seen e he;obtain⟨W2,hW2⟩:∃W2,W2=ChangeMaps.setBlock w1 W.heap.size (.mapIter (some wb) ck (seen.push e.born) ck):=⟨_,rfl⟩;have hw1b:Below wr.heap.size wr w1:=by rcases hw1 with rfl|rfl;exact N2 _ _;exact zo (N2 _ _)
   have hw1s:w1.heap.size=wr.heap.size:=by rcases hw1 with rfl|rfl<;>rfl
   have hm2:Mod (λk=>k=W.heap.size) wr W2:=by rw [hW2];exact(Mod.of_below (λk=>k=W.heap.size) hw1b).thenPut rfl _
   have hit2:W2.heap[W.heap.size]?=some (.mapIter (some wb) ck (seen.push e.born) ck):=by rw [hW2];exact World.putObj_heap_same (w:=w1) (by omega)
   have hs2:W2.heap.size=wr.heap.size:=by rw [hW2];show(w1.heap.setIfInBounds _ _).size=_;simp [hw1s]
   rw [← hW2,hval] at hrun;clear hW2 hw1b hw1s hw1;have hnx:∀ty,(Instr.next (.pointer (some ⟨W.heap.size,0,none⟩)) false ty).run prog wr=_:=λ_=>hrun
   clear hrun;have hb2:W2.heap[wb]?=some (.map es ck):=(hm2.block wb (by have:=hbw.size;omega) (by omega)).trans hb;have hen:=run_entry_at (P:=prog) W2 W.heap.size wb ck seen es ck e hit2 hb2 hem hnd;rw [hval] at hen;have hrow2:=hrow.mod hm2 (λg hg e=>by have:=hown g hg;omega);have hbw2:Below W.heap.size W W2:=hbw.trans (hm2.to_below hbw.size (λk _ e=>by omega))
   have hal:acc.length+1<=n:=by
    have h5:=hperm.length_eq;have h6:=hpush.length_eq;rw [N1,h6,List.length_cons,hwlen.out] at h5;omega
   have hper2:((acc++ [m])++vR L (seen.push e.born)).Perm ws:=by
    refine List.Perm.trans ?_ hperm;rw [List.append_assoc];exact(hpush.symm).append_left acc
   have hmes:(leftOf es (seen.push e.born)).size<(leftOf es (wr.iterSeen W.heap.size)).size:=by
    have:wr.iterSeen W.heap.size=seen:=by unfold World.iterSeen;rw [hit]
    rw [this];exact hshr
   obtain⟨⟨mi,mc⟩,md⟩:=m;obtain⟨va,vn,vc,rfl⟩:=hrow.shape;have hz1:(W2.alloc (.cells #[.int .i64 mi,.int .u32 mc,.string (bs md)] 253)).heap.size=W2.heap.size+1:=by simp
   obtain⟨v',W4,hrun,hrow4,hgr,hown4⟩:=zI zkP ((hrow2.below ((N2 _ _).alloc (N0 _) (.cells #[.int .i64 mi,.int .u32 mc,.string (bs md)] 253))).below ((N2 _ _).alloc (N0 _) (.cells #[.int .i64 mi,.int .u32 mc,.string (bs md)] 253))) (jB (n:=1) (size:=3) (cap:=1) (Blk.new (w:=W2.alloc (.cells #[.int .i64 mi,.int .u32 mc,.string (bs md)] 253)) (cs:=#[.int .i64 mi,.int .u32 mc,.string (bs md)]) (t:=253) rfl) rfl (N0 1)) (jp [((mi,mc),md)]) (by omega) 365;rw [hz1] at hrun;obtain⟨sa,sm,sc,rfl⟩:=hrow4.shape;unfold vz at hnx hen;replace hrow:=G hrow;replace hrow2:=G hrow2;replace hrow4:=G hrow4;replace hown:=G hown;replace hown4:=G hown4;replace hper2:=G hper2;replace hpush:=G hpush;replace hperm:=G hperm;replace hmes:=G hmes;replace hs2:=G hs2;replace hrun:=G hrun;replace hval:=G hval
   gi_wp2_with (gi_at_builtin
                refine jL rfl _ _ _ rfl rfl rfl hrun.out ?_)
   have hit4:W4.heap[W.heap.size]?=some (.mapIter (some wb) ck (seen.push e.born) ck):=
    (hgr.block _ (by simp;have:=hs2.out;omega) (λe=>by have:=hown.out _ e.symm;omega)).trans ((U4 _ _ _ (by simp;have:=hs2.out;omega)).trans ((U4 _ _ _ (by have:=hs2.out;omega)).trans hit2))
   go_roundw
   case rel=>
    refine⟨acc++ [((mi,mc),md)],seen.push e.born,hit4,?_,hper2.out,?_,λg hg=>?_⟩
    ·exact(((hbw2.alloc hbw2.size _).alloc (by simp;have:=hbw2.size;omega) _)).grown hgr (by simp;have:=hbw2.size;omega) (λj hj=>by have:=hown.out j hj;omega)
    ·rw [N1,U2,U5];exact hrow4.out
    ·have h5:=hown4.out
     rw [hg] at h5
     rcases h5 with h|h
     ·exact hown.out g h.symm
     ·simp at h;have:=hbw2.size;omega
   case measure=>
    have:W4.iterSeen W.heap.size=seen.push e.born:=by unfold World.iterSeen;rw [hit4]
    rw [this];exact hmes.out
end
open Go Go.RowKit Go.Shelf Go.Extern.Stop Go.Stop Go.Extern
attribute [local go_sem] Oper.semAt_some zw zn
structure V0(L:List zD)(mb lb:Nat)(most:Nat)(W0:World)(k:Nat)(v:Value)(X:Nat->Prop)(W:World):Prop where
 fr:Fr (λk=>k=lb) W0 X W
 kl:Blk W lb #[v] 57
 row:Row W 34 3 v (L.take k).length ((L.take k).flatMap zh)
 new:∀g,v.ownBlock=some g->W0.heap.size<=g/\¬X g
theorem V0.stab {L:List zD}{mb lb most:Nat}{W0:World}{k:Nat}{v:Value}{X X':Nat->Prop}{W W':World}(h:V0 L mb lb most W0 k v X W)(hl:lb<W0.heap.size)(hm:Mod X W W')(hx:∀k,X' k->X k∨(W.heap.size<=k/\k<W'.heap.size)):V0 L mb lb most W0 k v X' W' where
 fr:=h.fr.step hm hx
 kl:=h.kl.kept (h.fr.block hm hl)
 row:=h.row.mod hm (λg hg=>(h.new g hg).2)
 new:=λg hg=>⟨(h.new g hg).1,λhX=>by
  rcases hx g hX with h1|h1
  ·exact(h.new g hg).2 h1
  ·have:=h.row.lt hg;omega⟩
def V1(l:List zD)(w:World)(e:Ending)(w':World):Prop:=
 ∃v,e=.returned (.tuple #[v,.int .i64 0])/\Below w.heap.size w w'/\Row w' 34 3 v l.length (l.flatMap zh)/\∀g,v.ownBlock=some g->w.heap.size<=g
theorem zcU(B:Nat)(p:xL)(t:List Nat)(ow:Own)(most:Nat)(h1:1<=most)(h2:most<=64)(w:World)(h:jO B p t ow w):
 Calls prog 139 #[.pointer (some ⟨B,0,none⟩),.int .i64 most] w (V1 (JD p most) w):=by
 have hlen:p.waits.length<=1000000:=by have:=h.1.2.2;omega
 have hit:=λcb=>zcT cb B p t ow hlen
 have hbp:JD p most=(Zf (p.waits.map (·.2))).take most:=rfl;have hsl:(Zf (p.waits.map (·.2))).length=p.waits.length:=by rw [(vw _).length_eq];simp
 rw [hbp];have h0:=h;obtain⟨hok,wb,db,hB, -⟩:=h;have hnil:=λW hW=>JH B wb db W hW
 unfold xg at hB hnil
 generalize Zf (p.waits.map (·.2))=L at*
 have hpost:∀v W',Below w.heap.size w W'->Row W' 34 3 v (L.take most).length ((L.take most).flatMap zh)->(∀g,v.ownBlock=some g->w.heap.size<=g)->V1 (L.take most) w (.returned (.tuple #[v,.int .i64 0])) W':=λv W' a b c=>⟨v,rfl,a,b,c⟩
 have t1:decide ((most:Int)<1)=false:=by simp;omega
 have t2:decide ((64:Int)<(most:Int))=false:=by simp;omega
 replace hpost:=G hpost;replace hit:=G hit;replace hnil:=G hnil;replace h0:=G h0;replace hbp:=G hbp;replace hsl:=G hsl;replace hB:=G hB;refine zl func139 rfl ?_;simp only [ntmps139,R8,Nat.reduceAdd,Nat.reduceSub];go_wp2;go_step3;go_wp2_with fail
 refine(hnil.out _ (hB.out.alloc _)).mono ?_;rintro e w1⟨rfl,hw1⟩;obtain rfl:=hw1.symm;go_wp2;go_step3;go_wp2_with fail
 refine(ze9 B _).mono ?_;rintro e w2⟨rfl,rfl⟩;go_wp2_with fail
 obtain⟨W0,hW0⟩:∃W0,W0=(((w.alloc (.cells #[.int .i64 most] 3)).alloc (.cells #[.slice none 0 0] 57)).alloc (.cells #[.pointer (some ⟨B,0,none⟩)] 93)):=⟨_,rfl⟩;have hsz:W0.heap.size=w.heap.size+3:=by rw [hW0];simp
 have hb0:Below w.heap.size w W0:=by rw [hW0];exact pbx
 have km0:Blk W0 w.heap.size #[.int .i64 most] 3:=by rw [hW0];exact bkx
 have kl0:Blk W0 (w.heap.size+1) #[.slice none 0 0] 57:=by rw [hW0];exact bkx
 have kc0:Blk W0 (w.heap.size+1+1) #[.pointer (some ⟨B,0,none⟩)] 93:=by rw [hW0];exact bkx
 rw [← hW0];clear hW0
 refine yR (gf:=228) (lb:=#[.pointer (some ⟨w.heap.size+1+1,0,none⟩)]) rfl (enters_of func228 (by kernel_rfl) rfl)
  (hit.out (w.heap.size+1+1)) (λ_=>rfl)
  (λk X W=>k<=most/\k<=L.length/\∃v,V0 L w.heap.size (w.heap.size+1) most W0 k v X W)
  (λc X W=>c=.exit 0/\∃v,V0 L w.heap.size (w.heap.size+1) most W0 most v X W)
  (λk X X' W W' h hm hx=>by obtain⟨a,b,v,h3⟩:=h;exact⟨a,b,v,h3.stab (by omega) hm hx⟩)
  (λc _ X X' W W' h hm hx=>by obtain⟨hc,v,h3⟩:=h;exact⟨hc,v,h3.stab (by omega) hm hx⟩)
  (λk X W h=>by obtain⟨a,b,v,h3⟩:=h;exact⟨kc0.mod h3.fr.2 (by omega),(jO.loc B p t).below h0.out (hb0.trans (h3.fr.below (by omega) (λk hk=>by omega)))⟩)
  (λk X W h=>by obtain⟨a,b,v,h3⟩:=h;exact⟨by have:=h3.fr.2.size;omega,λk hk=>(h3.fr.1 k hk).2⟩)
  ⟨Nat.zero_le _,Nat.zero_le _,.slice none 0 0,Fr.refl _ _,kl0,zX _ _ _,by simp [Value.ownBlock]⟩
  7 34 (λx=> #[.int .i64 x.1.1,.int .u32 x.1.2,.string (bs x.2)]) ?assign ?body ?done ?stop
 case assign=>
  intro l' x W K hK;rw [zR] at hK⊢;unfold vz at hK⊢
  gi_wp2
  exact hK
 case body=>
  rintro l' k x cb X X1 W1 W hI1⟨hkm,hkL,v,hI⟩ hnx hcb hcw hXc kx hXl _;obtain⟨hfr,kl,hrow,hnew⟩:=hI;obtain⟨⟨xi,xc⟩,xd⟩:=x;have km:=km0.mod hfr.2 (by omega);have em:=km.cell;have lm:=km.lt;have el:=kl.cell;have ll:=kl.lt;have hklt:=(N6.1 hnx).1;have htk:(L.take k).length=k:=by rw [N7];omega
  rw [zR];unfold vz;simp only at kx;rw [htk] at hrow
  by_cases hkq:k=most
  ·subst hkq
   have t3:((k:Int)==(k:Int))=true:=by simp
   obtain⟨va,vc,rfl⟩:=hrow.src.shape;replace hrow:=G hrow;replace hnew:=G hnew;replace hnx:=G hnx
   gi_wp2
   exact⟨⟨rfl,_,hfr,kl,by rw [htk];exact hrow.out,hnew.out⟩,ju.refl _ _⟩
  ·have t3:((k:Int)==(most:Int))=false:=by simp;omega
   obtain⟨va,vc,rfl⟩:=hrow.src.shape;have htk1:(L.take (k+1))=L.take k++ [((xi,xc),xd)]:=by rw [List.take_add_one,hnx];rfl
   have ex:=kx.cell;have hz0:=hfr.2.size;have hva:∀g,(Value.slice va k vc).ownBlock=some g->g≠w.heap.size+1:=λg hg=>by have:=(hnew g hg).1;omega
   have hxl:=kx.lt;obtain⟨v',W3,hrun,hrow3,hgr,hown⟩:=zI zb6 (hrow.below ((N2 _ _).alloc (N0 _) (.cells #[.int .i64 xi,.int .u32 xc,.string (bs xd)] 34))) (jB (n:=1) (size:=3) (cap:=1) (Blk.new (w:=W) (cs:=#[.int .i64 xi,.int .u32 xc,.string (bs xd)]) (t:=34) rfl) rfl (N0 1)) (jp [((xi,xc),xd)]) (by omega) 57;have kl3:=(kl.alloc (.cells #[.int .i64 xi,.int .u32 xc,.string (bs xd)] 34)).kept (hgr.block _ (by simp;omega) (λe=>hva _ e.symm rfl));have fl3:=kl3.frozen;have el3:=kl3.cell;have ll3:=kl3.lt;obtain⟨sa,sm,sc,rfl⟩:=hrow3.shape;replace hrow:=G hrow;replace hrow3:=G hrow3;replace hown:=G hown;replace hnew:=G hnew;replace hva:=G hva;replace hnx:=G hnx;replace htk1:=G htk1;replace hrun:=G hrun
   gi_wp2_with (gi_at_builtin
                refine jL rfl _ _ _ rfl rfl rfl hrun.out ?_)
   have hm4:Mod (λk'=>k'=w.heap.size+1∨(Value.slice va k vc).ownBlock=some k') W (W3.setCell ⟨w.heap.size+1,0,none⟩ (.slice sa sm sc)):=
    (((Mod.refl (λk'=>k'=w.heap.size+1∨(Value.slice va k vc).ownBlock=some k') W).thenAlloc (.cells #[.int .i64 xi,.int .u32 xc,.string (bs xd)] 34)).trans (Mod.grown (X:=λk'=>k'=w.heap.size+1∨(Value.slice va k vc).ownBlock=some k') hgr (λk h=>.inr h)) (λ_ _ e=>e) (λ_ _ e=>e)).thenSet (p:=⟨w.heap.size+1,0,none⟩) (.inl rfl) _
   have hg6:∀g,(Value.slice sa sm sc).ownBlock=some g->W0.heap.size<=g/\¬X g:=λg hg=>by
    have:=hown.out;rw [hg] at this
    rcases this with h|h
    ·exact hnew.out g h.symm
    ·simp at h;subst h;exact⟨by omega,λhX=>by have:=(hfr.1 _ hX).2;omega⟩
   refine⟨⟨by omega,by omega,.slice sa sm sc,hfr.mod hm4 (λk hk h=>?_),kl3.set (o:=0) _,?_,hg6⟩,ju.of_mod hm4 (λk hk hX h=>?_)⟩
   ·rcases h with h|h
    ·exact h
    ·have:=(hnew.out k h).1;omega
   ·rw [htk1.out,N1,htk,U2,U5]
    refine Row.kept (w:=W3) hrow3.out (λg hg=>?_);have:=(hg6 g hg).1;exact N4 _ _ _ _ (show g≠w.heap.size+1 by omega)
   ·have:=hfr.1 k hX
    rcases h with h|h
    ·omega
    ·exact(hnew.out k h).2 hX
 case done=>
  rintro D k X W hD hXD hfin⟨hkm,hkL,v,hI⟩ hdef;have hfin':k=p.waits.length:=hfin;have hLk:L.take most=L.take k:=by rw [List.take_of_length_le (by have:=hsl.out;omega),List.take_of_length_le (by have:=hsl.out;omega)]
  obtain⟨hfr,kl,hrow,hnew⟩:=hI;rw [← hLk] at hrow;have hbW:Below w.heap.size w W:=hb0.trans (hfr.below (by omega) (λk hk=>by omega));have el:=kl.cell;have hne:∀g,v.ownBlock=some g->g≠D:=λg hg e=>by subst e;obtain⟨cur,hc⟩:=hrow.type hg;rw [hdef] at hc;cases hc
  have hnw:∀g,v.ownBlock=some g->w.heap.size<=g:=λg hg=>by have:=(hnew g hg).1;omega
  replace hrow:=G hrow;clear hnew;go_wp2;rw [Exit.noGoto_ret];exact zS (D:=D) (v:=.tuple #[v,.int .i64 0]) hdef (by simp [results,Tryz.results139,go_sem]) (hpost.out _ _ (zF hbW (by omega) _) (hrow.out.kept (λg hg=>U1 (hne g hg))) hnw)
 case stop=>
  rintro D c X W hD hXD⟨rfl,v,hI⟩ hdef;obtain⟨hfr,kl,hrow,hnew⟩:=hI;have hbW:Below w.heap.size w W:=hb0.trans (hfr.below (by omega) (λk hk=>by omega));have el:=kl.cell;have hne:∀g,v.ownBlock=some g->g≠D:=λg hg e=>by subst e;obtain⟨cur,hc⟩:=hrow.type hg;rw [hdef] at hc;cases hc
  have hnw:∀g,v.ownBlock=some g->w.heap.size<=g:=λg hg=>by have:=(hnew g hg).1;omega
  replace hrow:=G hrow;clear hnew;go_wp2;rw [Exit.noGoto_ret];exact zS (D:=D) (v:=.tuple #[v,.int .i64 0]) hdef (by simp [results,Tryz.results139,go_sem]) (hpost.out _ _ (zF hbW (by omega) _) (hrow.out.kept (λg hg=>U1 (hne g hg))) hnw)
