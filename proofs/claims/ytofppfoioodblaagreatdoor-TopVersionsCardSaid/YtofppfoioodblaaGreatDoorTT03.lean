/- PARTS OF THE PROOF. -/
import Derived.Maps.AppendAt
import Derived.Laws.OwnMore
import Derived.OwnWalk
import Derived.OwnWalkIn
import Derived.Test.YtofppfoioodblaaGreatDoorTT01
import Derived.Test.YtofppfoioodblaaGreatDoorTT02
set_option maxRecDepth 8000
set_option maxHeartbeats 4000000
namespace Go.Proofs.YtofppfoioodblaaGreatDoor
section
open Go Go.RowKit
structure x4(P:Program)(kt:TypeId){K:Type} [DecidableEq K](enc:K->Value):Prop where
 eq:∀(k k':K)(w:World),(Op.equal kt (enc k) (enc k')).run P w=.ok (decide (k=k')) w
 chk:∀(b:Bool)(k:K)(w:World),(Instr.checkKey b 10000 kt (enc k)).run P w=.ok () w
 bits:∀k:K,Instr.sameBits 10000 (enc k) (enc k)=true
 now:∃u,P.underlying kt=some u/\∀k k':K,Instr.sameNow u (enc k) (enc k')=none∨Instr.sameNow u (enc k) (enc k')=some (decide (k=k'))
section
variable {P:Program}{kt:TypeId}{K:Type} [DecidableEq K] {enc:K->Value}
def j5 {V:Type}(k:K):List (K×V)->Nat->Option (Nat×V)
 | [],_=>none
 |(k',v)::l,i=>if k=k' then some (i,v)else j5 k l (i+1)
def zD {V:Type}(k:K):List (K×V)->Option V
 | []=>none
 |(k',v)::l=>if k=k' then some v else zD k l
theorem qY {V:Type}(k:K):∀(l:List (K×V)) (i:Nat),(j5 k l i).map (·.2)=zD k l
 | [],_=>rfl
 |(k',v)::l,i=>by
  unfold j5 zD
  split
  ·rfl
  ·exact qY k l (i+1)
theorem xx {V U:Type}(f:V->U)(k:K):∀l:List (K×V),zD k (l.map λp=>(p.1,f p.2))=(zD k l).map f
 | []=>rfl
 |(k',v)::l=>by
  have ih:=xx f k l;rw [List.map_cons]
  by_cases h:k=k'
  ·simp [zD,h]
  ·simp [zD,h,ih]
def vg(enc:K->Value)(es:List MapEntry)(l:List (K×Value)):Prop:=es.map (λe=>(e.key,e.val))=l.map (λp=>(enc p.1,p.2))
omit [DecidableEq K] in
theorem vg.cons {e:MapEntry}{es:List MapEntry}{p:K×Value}{l:List (K×Value)} :vg enc (e::es) (p::l)↔(e.key=enc p.1/\e.val=p.2)/\vg enc es l:=by
 simp [vg]
theorem Jo(L:x4 P kt enc){u:TypeDesc}(hu:P.underlying kt=some u)(k:K):∀(es:List MapEntry)(l:List (K×Value)) (i:Nat),vg enc es l->
 Instr.findNow u (enc k) es i=none∨Instr.findNow u (enc k) es i=some (j5 k l i)
 | [],[],i,_=>.inr rfl
 | [],p::l,i,h=>by simp [vg] at h
 |e::es,[],i,h=>by simp [vg] at h
 |e::es,(k',v)::l,i,h=>by
  obtain⟨⟨hk,hv⟩,h'⟩:=vg.cons.1 h;obtain⟨u',hu',hs⟩:=L.now;obtain rfl:u'=u:=Option.some.inj (hu'.symm.trans hu);have ih:=Jo L hu k es l (i+1) h';simp only [Instr.findNow,hk,j5]
  rcases hs k k' with h1|h1
  ·rw [h1];exact .inl rfl
  ·rw [h1]
   by_cases hkk:k=k'
   ·rw [if_pos hkk];simp [hkk];exact hv
   ·rw [if_neg hkk];simp only [hkk,decide_false];exact ih
theorem qP(L:x4 P kt enc)(k:K)(w:World):∀(es:List MapEntry)(l:List (K×Value)) (i:Nat),vg enc es l->
 (Instr.findAsking kt (enc k) es i).run P w=.ok (j5 k l i) w
 | [],[],i,_=>by simp [Instr.findAsking,j5,Sem.run_pure]
 | [],p::l,i,h=>by simp [vg] at h
 |e::es,[],i,h=>by simp [vg] at h
 |e::es,(k',v)::l,i,h=>by
  obtain⟨⟨hk,hv⟩,h'⟩:=vg.cons.1 h;have ih:=qP L k w es l (i+1) h';simp only [Instr.findAsking,hk,j5,Sem.run_bind,L.eq,Result.andThen]
  by_cases hkk:k=k'
  ·simp only at hv;simp [hkk,Sem.run_pure,hv]
  ·simp [hkk,ih]
theorem yv(L:x4 P kt enc)(k:K)(w:World)(es:List MapEntry)(l:List (K×Value))(h:vg enc es l):
 (Instr.findKey kt (enc k) es).run P w=.ok (j5 k l 0) w:=by
 obtain⟨u,hu,_⟩:=L.now;unfold Instr.findKey;simp only [Sem.run_bind,run_underlying hu,Result.andThen]
 rcases Jo L hu k es l 0 h with h1|h1
 ·rw [h1];exact qP L k w es l 0 h
 ·rw [h1];simp [Sem.run_pure]
theorem j3 {w:World}{b:Nat}{es:Array MapEntry}{c:Nat}(h:w.heap[b]?=some (.map es c)):(getObj b).run P w=.ok (.map es c) w:=by simp [getObj,Sem.run,h]
theorem vm {w:World}{b:Nat}{es:Array MapEntry}{c:Nat}(o:Obj)(h:w.heap[b]?=some (.map es c)):(setObj b o).run P w=.ok () (w.putObj b o):=by simp [setObj,Sem.run,h,World.putObj]
def jc(w:World)(b:Nat)(enc:K->Value)(l:List (K×Value)):Prop:=
 ∃es c,w.heap[b]?=some (.map es c)/\vg enc es.toList l/\es.toList.Pairwise (λx y=>x.born<y.born)/\(∀e∈es.toList,e.born<c)
omit [DecidableEq K] in
theorem jc.lt {w:World}{b:Nat}{l:List (K×Value)}(h:jc w b enc l):b<w.heap.size:=by
 obtain⟨es,c,hb,_⟩:=h;exact(N5.1 hb).1
omit [DecidableEq K] in
theorem jc.kept {w w':World}{b:Nat}{l:List (K×Value)}(h:jc w b enc l)(hb:w'.heap[b]?=w.heap[b]?):jc w' b enc l:=by
 obtain⟨es,c,h1,h2⟩:=h;exact⟨es,c,hb.trans h1,h2⟩
omit [DecidableEq K] in
theorem jc.made(w:World)(enc:K->Value):jc (w.alloc (.map #[] 0)) w.heap.size enc []:=
 ⟨#[],0,World.alloc_heap_new w _,rfl,by simp,by simp⟩
omit [DecidableEq K] in
theorem jc.size {w:World}{b:Nat}{l:List (K×Value)}(h:jc w b enc l):∃es c,w.heap[b]?=some (.map es c)/\es.size=l.length:=by
 obtain⟨es,c,h1,h2,_⟩:=h;have:=congrArg List.length h2;simp at this
 exact⟨es,c,h1,this⟩
theorem jc.lookup {w:World}{b:Nat}{l:List (K×Value)}(h:jc w b enc l)(L:x4 P kt enc){mt et:TypeId}(hm:P.underlying mt=some (.map kt et)){z:Value}(hz:(zeroValue et).run P w=.ok z w)(k:K):
 (Instr.lookup mt (.map (some b)) (enc k) false).run P w=.ok ((zD k l).getD z) w:=by
 obtain⟨es,c,hb,hB,_⟩:=h;unfold Instr.lookup;simp only [Sem.run_bind,run_underlying hm,Result.andThen,j3 hb,Sem.run_pure,L.chk,yv L k w _ _ hB];have hl:=qY k l 0
 cases hi:j5 k l 0 with
 |none=>rw [hi] at hl;simp only [Option.map_none] at hl;rw [← hl];simp [hz]
 |some p=>rw [hi] at hl;simp only [Option.map_some] at hl;rw [← hl];simp [Sem.run_pure]
theorem jc.lookup_ok {w:World}{b:Nat}{l:List (K×Value)}(h:jc w b enc l)(L:x4 P kt enc){mt et:TypeId}(hm:P.underlying mt=some (.map kt et)){z:Value}(hz:(zeroValue et).run P w=.ok z w)(k:K):
 (Instr.lookup mt (.map (some b)) (enc k) true).run P w=.ok (.tuple #[(zD k l).getD z,.bool (zD k l).isSome]) w:=by
 obtain⟨es,c,hb,hB,_⟩:=h;unfold Instr.lookup;simp only [Sem.run_bind,run_underlying hm,Result.andThen,j3 hb,Sem.run_pure,L.chk,yv L k w _ _ hB];have hl:=qY k l 0
 cases hi:j5 k l 0 with
 |none=>rw [hi] at hl;simp only [Option.map_none] at hl;rw [← hl];simp [hz,Result.andThen]
 |some p=>rw [hi] at hl;simp only [Option.map_some] at hl;rw [← hl];simp [Sem.run_pure]
def put {V:Type}(k:K)(v:V):List (K×V)->List (K×V)
 | []=>[(k,v)]
 |(k',v')::l=>if k=k' then(k,v)::l else(k',v')::put k v l
theorem zdC {k:K}{v:Value} :∀ {l:List (K×Value)} {i:Nat},j5 k l i=none->put k v l=l++ [(k,v)]
 | [],_,_=>rfl
 |(k',v')::l,i,h=>by
  unfold j5 at h
  split at h
  ·cases h
  ·rename_i hk;unfold put;rw [if_neg hk,zdC h];rfl
theorem ZJ {k:K}{v:Value} :∀ {l:List (K×Value)} {es:List MapEntry} {i j:Nat} {v0:Value},j5 k l i=some (j,v0)->vg enc es l->
 i<=j/\((es[j - i]?).map (·.key))=some (enc k)/\vg enc (es.modify (j - i) λe=> {e with key:=enc k,val:=v}) (put k v l)
 | [],es,i,j,v0,h,_=>by cases h
 |(k',v')::l,[],i,j,v0,h,hB=>by simp [vg] at hB
 |(k',v')::l,e::es,i,j,v0,h,hB=>by
  obtain⟨⟨h1,h2⟩,h3⟩:=vg.cons.1 hB;unfold j5 at h
  split at h
  ·rename_i hk
   cases h
   unfold put;rw [if_pos hk];refine⟨N0 _,?_,?_⟩
   ·simp [h1,hk]
   ·simp only [Nat.sub_self,List.modify_zero_cons]
    exact vg.cons.2 ⟨⟨rfl,rfl⟩,h3⟩
  ·rename_i hk
   obtain⟨a,b,c⟩:=ZJ (v:=v) h h3;have hj:j - i=(j - (i+1))+1:=by omega
   refine⟨by omega,?_,?_⟩
   ·rw [hj];simpa using b
   ·rw [hj,List.modify_succ_cons]
    unfold put;rw [if_neg hk];exact vg.cons.2 ⟨⟨h1,h2⟩,c⟩
theorem jc.update {w:World}{b:Nat}{l:List (K×Value)}(h:jc w b enc l)(L:x4 P kt enc){mt et:TypeId}(hm:P.underlying mt=some (.map kt et))(k:K)(v:Value):
 ∃o,(Instr.mapUpdate mt (.map (some b)) (enc k) v).run P w=.ok () (w.putObj b o)/\jc (w.putObj b o) b enc (put k v l):=by
 have hlt:=h.lt;obtain⟨es,c,hb,hB,hS,hC⟩:=h
 cases hi:j5 k l 0 with
 |none=>
  refine⟨.map (es.push {key:=enc k,val:=v,born:=c}) (c+1),?_,_,_,World.putObj_heap_same hlt,?_,?_,?_⟩
  ·unfold Instr.mapUpdate
   simp only [Sem.run_bind,run_underlying hm,Result.andThen,j3 hb,L.chk,yv L k w _ _ hB,hi,vm _ hb]
  ·rw [zdC hi]
   simp [vg] at hB⊢
   rw [hB]
  ·simp [List.pairwise_append,hS];exact λe he=>hC e (by simpa using he)
  ·intro e he
   simp at he
   rcases he with he|rfl
   ·have:=hC e (by simpa using he);omega
   ·simp
 |some p=>
  obtain⟨j,v0⟩:=p;obtain⟨_,hkey,hBp⟩:=ZJ (v:=v) hi hB;simp only [Nat.sub_zero] at hkey hBp
  have hkey':((es[j]?).map (·.key)).getD (enc k)=enc k:=by
   rw [show es[j]?=es.toList[j]? by simp,hkey];rfl
  refine⟨.map (es.modify j λe=> {e with key:=enc k,val:=v}) c,?_,_,_,World.putObj_heap_same hlt,?_,?_,?_⟩
  ·unfold Instr.mapUpdate
   simp only [Sem.run_bind,run_underlying hm,Result.andThen,j3 hb,L.chk,yv L k w _ _ hB,hi,hkey',Instr.keyThatStays,L.bits,if_true,Sem.run_pure,vm _ hb]
  ·simpa using hBp
  ·have:(es.modify j λe=> {e with key:=enc k,val:=v}).toList.map (·.born)=es.toList.map (·.born):=by
    simp only [Array.toList_modify]
    apply List.ext_getElem?
    intro n;simp only [List.getElem?_map,List.getElem?_modify]
    by_cases hjn:j=n
    ·subst hjn;cases es.toList[j]?<;>simp
    ·simp [hjn]
   have h2:(es.toList.map (·.born)).Pairwise (·<·):=List.pairwise_map.2 hS;rw [← this] at h2;exact List.pairwise_map.1 h2
  ·intro e he
   simp only [Array.toList_modify] at he;obtain⟨n,hn⟩:=List.mem_iff_getElem?.1 he;rw [List.getElem?_modify] at hn
   cases he0:es.toList[n]? with
   |none=>rw [he0] at hn;simp at hn
   |some e0=>
    rw [he0] at hn;have h0:=hC e0 (List.mem_iff_getElem?.2 ⟨n,he0⟩)
    by_cases hjn:j=n
    ·simp [hjn] at hn;rw [← hn];exact h0
    ·simp [hjn] at hn;rw [← hn];exact h0
def del {V:Type}(k:K):List (K×V)->List (K×V)
 | []=>[]
 |(k',v')::l=>if k=k' then l else(k',v')::del k l
theorem zdD {k:K} :∀ {l:List (K×Value)} {i:Nat},j5 k l i=none->del k l=l
 | [],_,_=>rfl
 |(k',v')::l,i,h=>by
  unfold j5 at h
  split at h
  ·cases h
  ·rename_i hk;unfold del;rw [if_neg hk,zdD h]
theorem ZK {k:K} :∀ {l:List (K×Value)} {es:List MapEntry} {i j:Nat} {v0:Value},j5 k l i=some (j,v0)->vg enc es l->
 i<=j/\j - i<es.length/\vg enc (es.eraseIdx (j - i)) (del k l)
 | [],es,i,j,v0,h,_=>by cases h
 |(k',v')::l,[],i,j,v0,h,hB=>by simp [vg] at hB
 |(k',v')::l,e::es,i,j,v0,h,hB=>by
  obtain⟨⟨h1,h2⟩,h3⟩:=vg.cons.1 hB;unfold j5 at h
  split at h
  ·rename_i hk
   cases h
   unfold del;rw [if_pos hk];exact⟨N0 _,by simp,by simpa using h3⟩
  ·rename_i hk
   obtain⟨a,b,c⟩:=ZK h h3;have hj:j - i=(j - (i+1))+1:=by omega
   refine⟨by omega,by simp;omega,?_⟩;rw [hj,List.eraseIdx_cons_succ];unfold del;rw [if_neg hk];exact vg.cons.2 ⟨⟨h1,h2⟩,c⟩
theorem jc.delete {w:World}{b:Nat}{l:List (K×Value)}(h:jc w b enc l)(L:x4 P kt enc){mt et:TypeId}(hm:P.underlying mt=some (.map kt et))(ats:Array TypeId)(rt:TypeId)(hat:ats[0]?=some mt)(k:K):
 ∃o,(Builtin.delete_ ats rt #[.map (some b),enc k]).run P w=.ok (.tuple #[]) (w.putObj b o)/\jc (w.putObj b o) b enc (del k l):=by
 have hlt:=h.lt;obtain⟨es,c,hb,hB,hS,hC⟩:=h
 cases hi:j5 k l 0 with
 |none=>
  refine⟨.map es c,?_,_,_,World.putObj_heap_same hlt,?_,hS,hC⟩
  ·unfold Builtin.delete_
   simp [hat,Sem.run_bind,run_underlying hm,Result.andThen,j3 hb,L.chk,yv L k w _ _ hB,hi,vm _ hb]
  ·rw [zdD hi];exact hB
 |some p=>
  obtain⟨j,v0⟩:=p;obtain⟨_,hj,hBp⟩:=ZK hi hB;simp only [Nat.sub_zero] at hj hBp;have hlist:(es.eraseIdxIfInBounds j).toList=es.toList.eraseIdx j:=by simp
  refine⟨.map (es.eraseIdxIfInBounds j) c,?_,_,_,World.putObj_heap_same hlt,?_,?_,?_⟩
  ·unfold Builtin.delete_
   simp [hat,Sem.run_bind,run_underlying hm,Result.andThen,j3 hb,L.chk,yv L k w _ _ hB,hi,vm _ hb]
  ·rw [hlist];exact hBp
  ·rw [hlist];exact hS.sublist (List.eraseIdx_sublist _ _)
  ·rw [hlist];exact λe he=>hC e ((List.eraseIdx_sublist _ _).mem he)
theorem Yb {V U:Type}(f:V->U)(k:K)(v:V):∀l:List (K×V),put k (f v) (l.map λp=>(p.1,f p.2))=(put k v l).map λp=>(p.1,f p.2)
 | []=>rfl
 |(k',v')::l=>by
  have ih:=Yb f k v l;rw [List.map_cons]
  by_cases h:k=k'
  ·simp [put,h]
  ·simp [put,h,ih]
theorem QL {V U:Type}(f:V->U)(k:K):∀l:List (K×V),del k (l.map λp=>(p.1,f p.2))=(del k l).map λp=>(p.1,f p.2)
 | []=>rfl
 |(k',v')::l=>by
  have ih:=QL f k l;rw [List.map_cons]
  by_cases h:k=k'
  ·simp [del,h]
  ·simp [del,h,ih]
end
end
section
open Go
abbrev MId:=Int×Nat
abbrev zy:=MId×List UInt8
def zB(m:zy):Bool:=decide (0<=m.1.1)&& decide (m.1.1<16)&& decide (m.2.length<=1000)&& decide (1<=m.1.2)&& decide (m.1.2<=4294967294)
def jj(m:zy):List UInt8:=[UInt8.ofNat (m.1.1 % 256).toNat] ++le4 m.1.2++le4 m.2.length++m.2
def ye(l:List zy):List UInt8×Int:=
 if 64<l.length then([],101)else if l.all zB then([UInt8.ofNat (l.length % 256)] ++l.flatMap jj,0)else([],100)
structure vw where
 tk:List Nat
 log:List zy
 ws:List (MId×zy)
def zU:Nat->List (MId×zy)->zy->List (MId×zy)×List zy
 |0,ws,x=>(del x.1 ws,[x])
 |n+1,ws,x=>match zD (x.1.1,(x.1.2+1)% 4294967296) (del x.1 ws)with
  |none=>(del x.1 ws,[x])
  |some y=>((zU n (del x.1 ws) y).1,x::(zU n (del x.1 ws) y).2)
def vi(i:Int):Bool:=decide (0<=i)&& decide (i<16)
def ZG(b:vw)(i:Int):Nat:=if vi i then((b.tk[i.toNat]?.getD 0)+1)% 4294967296 else 0
def zgi(b:vw)(k:MId):Bool:=vi k.1 && decide (1<=k.2)&&((zD k b.ws).isSome||decide (k.2<=b.tk[k.1.toNat]?.getD 0))
def xK(tk:List Nat)(l:List zy):List Nat:=l.foldl (λt x=>t.set x.1.1.toNat x.1.2) tk
def xo(b:vw)(m:zy):vw×List zy×Int:=
 if zB m=false then(b,[],100)
 else if m.1.2≠ZG b m.1.1 then((if zgi b m.1 then b else {b with ws:=put m.1 m b.ws}),[],0)
 else({tk:=xK b.tk (zU b.ws.length b.ws m).2,log:=b.log++(zU b.ws.length b.ws m).2,ws:=(zU b.ws.length b.ws m).1},(zU b.ws.length b.ws m).2,0)
structure vO(b:vw):Prop where
 sixteen:b.tk.length=16
 most:∀n∈b.tk,n<=4294967294
 keys:∀p∈b.ws,p.2.1=p.1/\zB p.2=true
def xL:vw:={tk:=List.replicate 16 0,log:=[],ws:=[] }
def zV(b:vw):List zy->vw×List zy
 | []=>(b,[])
 |m::l=>((zV (xo b m).1 l).1,(xo b m).2.1++(zV (xo b m).1 l).2)
structure jy where
 kind:Int
 epoch:Nat
 ver:Int
 msgs:List zy
def xM(e:jy):Bool:=
 if e.kind=1 then decide (e.ver=0)
 else if e.kind=2 then decide (e.msgs.length=0)&& decide (0<=e.ver)&& decide (e.ver<=255)
 else if e.kind=3 then decide (e.msgs.length=0)&& decide (e.ver=0)
 else false
def jv(e:jy):List UInt8×Int:=
 if xM e=false then([],140)
 else if(ye e.msgs).2≠0 then([],140)
 else if 4000<([UInt8.ofNat (e.kind % 256).toNat] ++le4 e.epoch++ [UInt8.ofNat (e.ver % 256).toNat] ++(ye e.msgs).1).length then([],140)
 else([UInt8.ofNat (e.kind % 256).toNat] ++le4 e.epoch++ [UInt8.ofNat (e.ver % 256).toNat] ++(ye e.msgs).1,0)
def ZL(e:jy):Bool:=decide ((jv e).2=0)
abbrev qZ:=Nat×Int×Int
structure yJ where
 book:vw
 eras:List qZ
 count:Int
 sw:Bool
def vk(l:List qZ):qZ:=l.getLast?.getD (0,0,0)
def x6(n:qZ):List qZ->Int->Int
 | [],v=>v
 |e::l,v=>if e=n then v else x6 n l e.2.1
def vG(f:yJ)(v:Int)(sw:Bool):yJ:={f with eras:=f.eras++ [(((vk f.eras).1+1)% 4294967296,v,f.count)],sw:=sw}
def jX(f:yJ)(e:jy):yJ×List zy×Bool×Int:=
 if ZL e=false then(f,[],false,140)
 else if e.epoch≠(vk f.eras).1 then({f with count:=f.count+1},[],false,0)
 else if e.kind=1 then({f with count:=f.count+1,book:=(zV f.book e.msgs).1},(zV f.book e.msgs).2,false,0)
 else if e.kind=2 then
  if j2 (vk f.eras).2.1 e.ver≠0 then({f with count:=f.count+1},[],false,0)
  else(vG {f with count:=f.count+1} e.ver true,[],true,0)
 else if f.sw=false then({f with count:=f.count+1},[],false,0)
 else(vG {f with count:=f.count+1} (x6 (vk f.eras) f.eras 0) false,[],true,0)
def q8(v:Int):yJ:={book:=xL,eras:=[(1,v,0)],count:=0,sw:=false}
end
open Go Go.RowKit
abbrev Own:=Nat->List Nat
def Sub(t u:List Nat):Prop:=t<+:u
theorem Sub.rfl'(t:List Nat):Sub t t:=U0 t
theorem Sub.child(t:List Nat)(i:Nat):Sub t (t++ [i]):=List.prefix_append t [i]
theorem Sub.trans {a b c:List Nat}(h:Sub a b)(k:Sub b c):Sub a c:=List.IsPrefix.trans h k
theorem zj {t:List Nat}(h:t≠ []):¬Sub t []:=λe=>h (List.prefix_nil.1 e)
def zik(t u:List Nat):Prop:=¬Sub t u/\¬Sub u t
theorem zik.sub {t u v:List Nat}(h:zik t u)(hv:Sub u v):¬Sub t v:=λe=>by
 rcases List.prefix_or_prefix_of_prefix e hv with h1|h1
 ·exact h.1 h1
 ·exact h.2 h1
theorem zP(t:List Nat){i j:Nat}(h:i≠j):zik (t++ [i]) (t++ [j]):=by
 constructor
 ·intro e;have:=(List.prefix_append_right_inj t).1 e;simp at this;exact h this
 ·intro e;have:=(List.prefix_append_right_inj t).1 e;simp at this;exact h this.symm
theorem zQ(t:List Nat)(i:Nat):¬Sub (t++ [i]) t:=λe=>by
 have:=List.IsPrefix.length_le e;rw [N1,U2] at this;omega
structure zq(t:List Nat)(ow:Own)(W:World)(ow':Own)(W':World):Prop where
 mod:Mod (λk=>Sub t (ow k)) W W'
 agree:∀k,k<W.heap.size->ow' k=ow k
theorem zq.refl(t:List Nat)(ow:Own)(W:World):zq t ow W ow W:=⟨Mod.refl _ _,λ_ _=>rfl⟩
theorem zq.trans {t:List Nat}{o1 o2 o3:Own}{A B C:World}(h:zq t o1 A o2 B)(k:zq t o2 B o3 C):zq t o1 A o3 C:=
 ⟨h.mod.trans k.mod (λ_ _ e=>e) (λi hi e=>by rw [h.agree i hi] at e;exact e),λi hi=>(k.agree i (Nat.lt_of_lt_of_le hi h.mod.size)).trans (h.agree i hi)⟩
theorem zq.mono {t u:List Nat}{o1 o2:Own}{A B:World}(h:zq u o1 A o2 B)(hs:Sub t u):zq t o1 A o2 B:=
 ⟨h.mod.mono (λ_ _ e=>hs.trans e),h.agree⟩
theorem zq.of_below(t:List Nat)(ow:Own){W W':World}(h:Below W.heap.size W W'):zq t ow W ow W':=⟨Mod.of_below _ h,λ_ _=>rfl⟩
theorem zq.alloc(t:List Nat)(ow:Own)(W:World)(o:Obj):zq t ow W ow (W.alloc o):=⟨Mod.alloc _ W o,λ_ _=>rfl⟩
theorem zq.drew(t:List Nat)(ow:Own)(W:World):zq t ow W ow W.drew:=⟨Mod.drew _ W,λ_ _=>rfl⟩
theorem zq.setCell {t:List Nat}{ow:Own}(W:World)(a:Addr)(v:Value)(h:Sub t (ow a.block)):zq t ow W ow (W.setCell a v):=⟨Mod.setCell W a v h,λ_ _=>rfl⟩
theorem zq.setNew {t:List Nat}{ow o1:Own}{W W1:World}(h:zq t ow W o1 W1)(a:Addr)(v:Value)(ha:W.heap.size<=a.block):zq t ow W o1 (W1.setCell a v):=
 ⟨h.mod.trans (Mod.setCell (X:=λk=>k=a.block) W1 a v rfl) (λ_ _ e=>e) (λi hi e=>by omega),h.agree⟩
theorem zq.putObj {t:List Nat}{ow:Own}(W:World)(r:Nat)(o:Obj)(h:Sub t (ow r)):zq t ow W ow (W.putObj r o):=⟨Mod.putObj W r o h,λ_ _=>rfl⟩
theorem zq.putNew {t:List Nat}{ow o1:Own}{W W1:World}(h:zq t ow W o1 W1)(r:Nat)(o:Obj)(ha:W.heap.size<=r):zq t ow W o1 (W1.putObj r o):=
 ⟨h.mod.trans (Mod.putObj (X:=λk=>k=r) W1 r o rfl) (λ_ _ e=>e) (λi hi e=>by omega),h.agree⟩
theorem zq.grown {t:List Nat}{ow:Own}{W W':World}{row:Option Nat}(h:W.grownBy W' row)(hr:∀k,row=some k->Sub t (ow k)):zq t ow W ow W':=
 ⟨⟨h.os,h.tape,h.output,h.size,λk hk hn=>h.block k hk (λe=>hn (hr k e.symm))⟩,λ_ _=>rfl⟩
theorem zq.own {t:List Nat}{ow o1 o2:Own}{W W1:World}(h:zq t ow W o1 W1)(h2:∀k,k<W.heap.size->o2 k=o1 k):zq t ow W o2 W1:=
 ⟨h.mod,λk hk=>(h2 k hk).trans (h.agree k hk)⟩
theorem zq.size {t:List Nat}{ow ow':Own}{W W':World}(h:zq t ow W ow' W'):W.heap.size<=W'.heap.size:=h.mod.size
theorem zq.block {t:List Nat}{ow ow':Own}{W W':World}(h:zq t ow W ow' W'){k:Nat}(hk:k<W.heap.size)(hn:¬Sub t (ow k)):W'.heap[k]?=W.heap[k]?:=h.mod.block k hk hn
theorem zq.cell {t:List Nat}{ow ow':Own}{W W':World}(h:zq t ow W ow' W'){p:Addr}(hk:p.block<W.heap.size)(hn:¬Sub t (ow p.block)):W'.cell? p=W.cell? p:=h.mod.cell hk hn
theorem zq.below {t:List Nat}{ow ow':Own}{W W':World}{B:Nat}(h:zq t ow W ow' W')(hB:B<=W.heap.size)(hn:∀k,k<B->¬Sub t (ow k)):Below B W W':=
 ⟨h.mod.os,h.mod.tape,h.mod.output,h.mod.size,λk hk=>h.mod.block k (by omega) (hn k hk)⟩
def yK(t:List Nat)(A:Own->World->Prop):Prop:=
 ∀ow ow' W W',A ow W->W.heap.size<=W'.heap.size->(∀k,k<W.heap.size->Sub t (ow k)->ow' k=ow k/\W'.heap[k]?=W.heap[k]?)->A ow' W'
theorem yK.step {t u:List Nat}{A:Own->World->Prop}(hA:yK t A){ow ow':Own}{W W':World}(h:A ow W)(hs:zq u ow W ow' W')(hd:zik u t):A ow' W':=
 hA _ _ _ _ h hs.size (λk hk hk2=>⟨hs.agree k hk,hs.block hk (hd.sub hk2)⟩)
theorem yK.below {t:List Nat}{A:Own->World->Prop}(hA:yK t A){ow:Own}{W W':World}(h:A ow W)(hs:Below W.heap.size W W'):A ow W':=
 hA _ _ _ _ h hs.size (λk hk _=>⟨rfl,hs.block k hk⟩)
noncomputable def Own.ext(ow:Own)(n:Nat)(S:Nat->Prop)(t:List Nat):Own:=λk=>if k<n then ow k else(open Classical in if S k then t else [])
theorem Own.ext_old {ow:Own}{n:Nat}{S:Nat->Prop}{t:List Nat}{k:Nat}(h:k<n):ow.ext n S t k=ow k:=if_pos h
theorem Own.ext_new {ow:Own}{n:Nat}{S:Nat->Prop}{t:List Nat}{k:Nat}(h:n<=k)(hs:S k):ow.ext n S t k=t:=by
 unfold Own.ext;rw [if_neg (by omega),if_pos hs]
theorem Own.ext_none {ow:Own}{n:Nat}{S:Nat->Prop}{t:List Nat}{k:Nat}(h:n<=k)(hs:¬S k):ow.ext n S t k=[]:=by
 unfold Own.ext;rw [if_neg (by omega),if_neg hs]
noncomputable abbrev Own.cut(ow:Own)(w:World):Own:=ow.ext w.heap.size (λ_=>False) []
theorem Own.cut_old {ow:Own}{w:World}{k:Nat}(h:k<w.heap.size):ow.cut w k=ow k:=Own.ext_old h
theorem Own.cut_new {ow:Own}{w:World}{k:Nat}(h:w.heap.size<=k):ow.cut w k=[]:=Own.ext_none h (λh=>h)
theorem yK.cut {t:List Nat}{A:Own->World->Prop}(hA:yK t A){ow:Own}{w W:World}(h:A ow w)(hb:Below w.heap.size w W):A (ow.cut w) W:=
 hA _ _ _ _ h hb.size (λk hk _=>⟨Own.cut_old hk,hb.block k hk⟩)
theorem zq.wrap {t:List Nat}{ow ow2:Own}{w W w2:World}(hb:Below w.heap.size w W)(h:zq t (ow.cut w) W ow2 w2):zq t ow w ow2 w2:=
 ⟨(Mod.of_below (λk=>Sub t (ow k)) hb).trans h.mod (λ_ _ e=>e) (λk hk e=>by rwa [Own.cut_old hk] at e),λk hk=>(h.agree k (Nat.lt_of_lt_of_le hk hb.size)).trans (Own.cut_old hk)⟩
theorem zq.free {t:List Nat}(ht:t≠ []){ow ow2:Own}{w W w2:World}(h:zq t (ow.cut w) W ow2 w2){k:Nat}(hk:w.heap.size<=k)(hk2:k<W.heap.size):w2.heap[k]?=W.heap[k]?/\ow2 k=[]:=
 ⟨h.block hk2 (by rw [Own.cut_new hk];exact zj ht),(h.agree k hk2).trans (Own.cut_new hk)⟩
theorem yK.put {t:List Nat}(ht:t≠ []){A:Own->World->Prop}(hA:yK t A){ow:Own}{w:World}(h:A ow w){D:Nat}(hD:ow D=[])(o:Obj):A ow (w.putObj D o):=
 hA _ _ _ _ h (by simp) (λk hk hs=>⟨rfl,U1 (λe=>by subst e;rw [hD] at hs;exact zj ht hs)⟩)
abbrev Row(w:World)(e:TypeId)(size:Nat)(v:Value)(n:Nat)(xs:List Value):Prop:=w.ownsRow 0 e size v n xs
theorem z7(w:World)(e:TypeId)(size:Nat):Row w e size (.slice none 0 0) 0 []:=World.ownsRow_nil w 0 e size
theorem Row.lt {w:World}{e:TypeId}{size:Nat}{v:Value}{n:Nat}{xs:List Value}(h:Row w e size v n xs){g:Nat}(hg:v.ownBlock=some g):g<w.heap.size:=by
 rcases h.2 with⟨rfl,_⟩|⟨g',cap,cur,rfl,_,hgg,_⟩
 ·cases hg
 ·cases hg;exact(N5.1 hgg).1
theorem Row.kept {w w':World}{e:TypeId}{size:Nat}{v:Value}{n:Nat}{xs:List Value}(h:Row w e size v n xs)(hb:∀g,v.ownBlock=some g->w'.heap[g]?=w.heap[g]?):Row w' e size v n xs:=by
 rcases h with⟨h1,h2⟩
 refine⟨h1,?_⟩
 rcases h2 with h2|⟨g,cap,cur,rfl,hb0,hg,r⟩
 ·exact .inl h2
 ·exact .inr ⟨g,cap,cur,rfl,hb0,(hb g rfl).trans hg,r⟩
theorem Row.below {w w':World}{e:TypeId}{size:Nat}{v:Value}{n:Nat}{xs:List Value}(h:Row w e size v n xs)(hb:Below w.heap.size w w'):Row w' e size v n xs:=
 h.kept (λg hg=>hb.block g (h.lt hg))
theorem Row.mod {X:Nat->Prop}{w w':World}{e:TypeId}{size:Nat}{v:Value}{n:Nat}{xs:List Value}(h:Row w e size v n xs)(hm:Mod X w w')(hx:∀g,v.ownBlock=some g->¬X g):Row w' e size v n xs:=
 h.kept (λg hg=>hm.block g (h.lt hg) (hx g hg))
theorem Row.step {t:List Nat}{ow ow':Own}{w w':World}{e:TypeId}{size:Nat}{v:Value}{n:Nat}{xs:List Value}(h:Row w e size v n xs)(hs:zq t ow w ow' w')(hx:∀g,v.ownBlock=some g->¬Sub t (ow g)):Row w' e size v n xs:=
 h.mod hs.mod hx
theorem Row.type {w:World}{e:TypeId}{size:Nat}{v:Value}{n:Nat}{xs:List Value}(h:Row w e size v n xs){g:Nat}(hg:v.ownBlock=some g):∃cur,w.heap[g]?=some (.cells cur e (0,0)):=by
 rcases h.2 with⟨rfl,_⟩|⟨g',cap,cur,rfl,_,hgg,_⟩
 ·cases hg
 ·cases hg;exact⟨cur,hgg⟩
theorem Row.form {w:World}{e:TypeId}{size:Nat}{v:Value}{n:Nat}{xs:List Value}(h:Row w e size v n xs):(v=.slice none 0 0/\n=0/\xs=[])∨∃g cap,v=.slice (some ⟨g,0,none⟩) n cap/\n<=cap/\cap<=maxLen:=by
 rcases h.2 with⟨rfl,h0⟩|⟨g,cap,cur,rfl,_,_,hc,hm,_⟩
 ·subst h0;exact .inl ⟨rfl,rfl,N9 (by simpa using h.1)⟩
 ·exact .inr ⟨g,cap,rfl,hc,hm⟩
theorem Blk.ne_map {w:World}{B mb:Nat}{cs:Array Value}{T:TypeId}{K:Type}{enc:K->Value}{l:List (K×Value)}(h:Blk w B cs T)(hM:jc w mb enc l):B≠mb:=by
 rintro rfl;obtain⟨es,c,hb,_⟩:=hM;exact absurd (h.symm.trans hb) (by simp)
theorem Row.ne_map {w:World}{e:TypeId}{size:Nat}{v:Value}{n:Nat}{xs:List Value}{mb:Nat}{K:Type}{enc:K->Value}{l:List (K×Value)}(h:Row w e size v n xs)(hM:jc w mb enc l){g:Nat}(hg:v.ownBlock=some g):g≠mb:=by
 rintro rfl;obtain⟨cur,hc⟩:=h.type hg;obtain⟨es,c,hb,_⟩:=hM;exact absurd (hc.symm.trans hb) (by simp)
theorem Row.ne_blk {w:World}{e:TypeId}{size:Nat}{v:Value}{n:Nat}{xs:List Value}{B:Nat}{cs:Array Value}{T:TypeId}(h:Row w e size v n xs)(hB:Blk w B cs T)(hT:e≠T){g:Nat}(hg:v.ownBlock=some g):g≠B:=by
 rintro rfl;obtain⟨cur,hc⟩:=h.type hg;have:=hc.symm.trans hB;simp at this
 exact hT this.2
def Src(w:World)(v:Value)(size n:Nat)(xs:List Value):Prop:=
 xs.length=n*size/\((v=.slice none 0 0/\n=0)∨∃b off cap,v=.slice (some ⟨b,off,none⟩) n cap/\n<=cap/\∀j u,xs[j]?=some u->w.cell? ⟨b,off+j,none⟩=some u)
theorem Row.src {w:World}{e:TypeId}{size:Nat}{v:Value}{n:Nat}{xs:List Value}(h:Row w e size v n xs):Src w v size n xs:=by
 refine⟨h.1,?_⟩
 rcases h.2 with h0|⟨g,cap,cur,rfl,_,hg,hc,_,_,ht⟩
 ·exact .inl h0
 ·refine .inr ⟨g,0,cap,rfl,hc,λj u hu=>?_⟩
  have hlt:j<n*size:=by rw [← h.1];exact(N6.1 hu).1
  rw [Nat.zero_add,h.cellAt j hlt,hu]
theorem zgj(w:World)(size:Nat):Src w (.slice none 0 0) size 0 []:=⟨by simp,.inl ⟨rfl,rfl⟩⟩
theorem Src.kept {w w':World}{v:Value}{size n:Nat}{xs:List Value}(h:Src w v size n xs)(hb:∀a l c,v=.slice (some a) l c->w'.heap[a.block]?=w.heap[a.block]?):Src w' v size n xs:=by
 refine⟨h.1,?_⟩
 rcases h.2 with h0|⟨b,off,cap,rfl,hc,hr⟩
 ·exact .inl h0
 ·exact .inr ⟨b,off,cap,rfl,hc,λj u hu=>(World.cell?_of_block (w:=w) (w':=w') (a:=⟨b,off+j,none⟩) (show w'.heap[b]?=w.heap[b]? from hb ⟨b,off,none⟩ _ _ rfl)).trans (hr j u hu)⟩
theorem jH {w:World}{p:Addr}{u:Value}(h:w.cell? p=some u):p.block<w.heap.size:=by
 rcases Nat.lt_or_ge p.block w.heap.size with h'|h'
 ·exact h'
 ·simp [World.cell?,Array.getElem?_eq_none h'] at h
theorem Src.below {w w':World}{v:Value}{size n:Nat}{xs:List Value}(h:Src w v size n xs)(hb:Below w.heap.size w w'):Src w' v size n xs:=by
 refine⟨h.1,?_⟩
 rcases h.2 with h0|⟨b,off,cap,rfl,hc,hr⟩
 ·exact .inl h0
 ·exact .inr ⟨b,off,cap,rfl,hc,λj u hu=>(hb.cell (jH (hr j u hu))).trans (hr j u hu)⟩
theorem Src.step {t:List Nat}{ow ow':Own}{w w':World}{v:Value}{size n:Nat}{xs:List Value}(h:Src w v size n xs)(hs:zq t ow w ow' w')(hn:∀a l c,v=.slice (some a) l c->¬Sub t (ow a.block)):Src w' v size n xs:=by
 refine⟨h.1,?_⟩
 rcases h.2 with h0|⟨b,off,cap,rfl,hc,hr⟩
 ·exact .inl h0
 ·exact .inr ⟨b,off,cap,rfl,hc,λj u hu=>(hs.cell (p:=⟨b,off+j,none⟩) (jH (hr j u hu)) (show¬Sub t (ow b)from hn ⟨b,off,none⟩ _ _ rfl)).trans (hr j u hu)⟩
theorem jM {w:World}{b:Nat}{cs:Array Value}{t:TypeId}{n size cap:Nat}(h:Blk w b cs t)(hs:cs.size=n*size)(hc:n<=cap):Src w (.slice (some ⟨b,0,none⟩) n cap) size n cs.toList:=
 ⟨by simpa using hs,.inr ⟨b,0,cap,rfl,hc,λj u hu=>by rw [Nat.zero_add,h.cell j];simpa using hu⟩⟩
theorem Row.shape {w:World}{e:TypeId}{size:Nat}{v:Value}{n:Nat}{xs:List Value}(h:Row w e size v n xs):∃a m c,v=.slice a m c:=by
 rcases h.form with⟨h, -⟩|⟨g,cap,h, -⟩
 ·exact⟨_,_,_,h⟩
 ·exact⟨_,_,_,h⟩
theorem Mod.grown {X:Nat->Prop}{W W':World}{row:Option Nat}(h:W.grownBy W' row)(hr:∀k,row=some k->X k):Mod X W W':=⟨h.os,h.tape,h.output,h.size,λk hk hn=>h.block k hk (λe=>hn (hr k e.symm))⟩
theorem jz {w:World}{p:Addr}{v:Value}(h:w.cell? p=some v)(o:Obj):(w.alloc o).cell? p=some v:=(((N2 w.heap.size w).alloc (N0 _) o).cell (jH h)).trans h
structure Yc(P:Program)(t e:TypeId)(size bytes:Nat)(z:Value):Prop where
 under:P.underlying t=some (.slice e)
 info:(P.info? e).map (λi=>(i.zero,i.size,i.bytes))=some (some z,size,bytes)
 cells:z.cells.size=size
 pos:0<size
 small:bytes<=4096
theorem zT {P:Program}{t e:TypeId}{size bytes:Nat}{z:Value}(T:Yc P t e size bytes z){w:World}{v src:Value}{n m:Nat}{xs news:List Value}
 (hv:Row w e size v n xs) (hs:Src w src size m news) (h1:∀u∈news,u.oneCell'=true) (hb:n+m<=1073741824) (ty:TypeId):
 ∃v' w',(Builtin.append_ #[t,t] ty #[v,src]).run P w=.ok v' w'/\Row w' e size v' (n+m) (xs++news)/\w.grownBy w' v.ownBlock/\(v'.ownBlock=v.ownBlock∨v'.ownBlock=some w.heap.size):=by
 obtain⟨i,hi,hz0,hz1,hz2⟩:=info_parts T.info
 rcases hs.2 with⟨rfl,rfl⟩|⟨b,off,cap,rfl,_,hr⟩
 ·have hn:news=[]:=N9 (by simpa using hs.1)
  subst hn;exact⟨v,w,run_append_owned_none (w:=w) 0 t ty e i size T.under hi v n xs hv,by simpa using hv,⟨rfl,rfl,rfl,N0 _,λ_ _ _=>rfl⟩,.inl rfl⟩
 ·have hadd:∀j,(⟨b,off,none⟩:Addr).add j=⟨b,off+j,none⟩:=λj=>by unfold Addr.add;split<;>simp_all
  have hbytes:(n+m)*bytes<=140737488355328:=by
   have:=Nat.mul_le_mul hb T.small;omega
  obtain⟨v',w',h2,h3,h4,_,h5⟩:=run_append_own_at (P:=P) w 0 t ty e i z size bytes T.under hi hz0 hz1 hz2 T.cells T.pos v n xs hv ⟨b,off,none⟩ m cap news hs.1
   (λj u hu=>by rw [hadd];exact hr j u hu) h1 (by unfold maxLen;omega) hbytes (Nat.zero_le _)
  exact⟨v',w',h2,h3,h4,h5⟩
theorem zw {P:Program}{w:World}{ops:Array Oper}{rest:List Oper}{o:Oper}{a:Act}{Q:Exit->Act->World->Prop}(hgd:o.guard=none)(s x:Operand)(t:TypeId)
 (ho:o.op=.call {callee:=.builtin .append,args:=#[s,x],argTypes:=#[t,t] }) {v src:Value} (hs:a.eval s=v) (hx:a.eval x=src)
 {v':Value} {w':World} (hr:(Builtin.append_ #[t,t] o.type #[v,src]).run P w=.ok v' w') (h:wpList P ops Q rest (a.put o.dst v') w'):wpList P ops Q (o::rest) a w:=by
 refine wpList_plain hgd λK hK=>?_
 unfold Oper.wp execOp;simp only [ho,resolve,invoke,builtin,Sem.run_bind,Sem.run_pure,Result.andThen_ok,List.map_toArray,List.map_cons,List.map_nil,hs,hx,hr];exact hK _ _ h
theorem XH {P:Program}{w:World}{o:Oper}{a:Act}{K:Act->World->Prop}{Q:Exit->Act->World->Prop}(s x:Operand)(t:TypeId)
 (ho:o.op=.call {callee:=.builtin .append,args:=#[s,x],argTypes:=#[t,t] }) {v src:Value} (hs:a.eval s=v) (hx:a.eval x=src)
 {v':Value} {w':World} (hr:(Builtin.append_ #[t,t] o.type #[v,src]).run P w=.ok v' w') (h:K (a.put o.dst v') w'):o.wp P a w K Q:=by
 unfold Oper.wp execOp;simp only [ho,resolve,invoke,builtin,Sem.run_bind,Sem.run_pure,Result.andThen_ok,List.map_toArray,List.map_cons,List.map_nil,hs,hx,hr];exact h
theorem vt {P:Program}{w:World}{ops:Array Oper}{rest:List Oper}{o:Oper}{a:Act}{Q:Exit->Act->World->Prop}(hgd:o.guard=none)(s x:Operand)(t1 t2:TypeId)
 (ho:o.op=.call {callee:=.builtin .delete,args:=#[s,x],argTypes:=#[t1,t2] }) {v k:Value} (hs:a.eval s=v) (hx:a.eval x=k)
 {v':Value} {w':World} (hr:(Builtin.delete_ #[t1,t2] o.type #[v,k]).run P w=.ok v' w') (h:wpList P ops Q rest (a.put o.dst v') w'):wpList P ops Q (o::rest) a w:=by
 refine wpList_plain hgd λK hK=>?_
 unfold Oper.wp execOp;simp only [ho,resolve,invoke,builtin,Sem.run_bind,Sem.run_pure,Result.andThen_ok,List.map_toArray,List.map_cons,List.map_nil,hs,hx,hr];exact hK _ _ h
theorem jQ {F:Fence}{k:Nat}{P:Program}{w:World}{ops:Array Oper}{rest:List Oper}{o:Oper}{a:Act}{Q:Exit->Act->World->Prop}(hgd:o.guard=none)(s x:Operand)(t:TypeId)
 (ho:o.op=.call {callee:=.builtin .append,args:=#[s,x],argTypes:=#[t,t] }) {v src:Value} (hs:a.eval s=v) (hx:a.eval x=src)
 {v':Value} {w':World} (hr:(Builtin.append_ #[t,t] o.type #[v,src]).run P w=.ok v' w') (h:wpListIn F k P ops Q rest (a.put o.dst v') w'):wpListIn F k P ops Q (o::rest) a w:=by
 refine wpListIn_plain hgd λK hK=>?_
 unfold Oper.wpIn;refine⟨?_,?_⟩
 ·simp [Oper.about,ho,resolve,Target.leads,Sem.run_pure]
 ·rw [Oper.semAt_plain F _ _ (by rw [ho];intro c hc';cases hc')]
  simp [execOp,ho,resolve,invoke,builtin,hs,hx,hr,Result.andThen]
  exact hK _ _ h
theorem XE.alloc {σ:Type}{I:σ->(Nat->Prop)->World->Prop}(h:XE I){s:σ}{X:Nat->Prop}{W:World}(o:Obj)(hi:I s X W):I s (λk=>X k∨k=W.heap.size) (W.alloc o):=
 h _ _ _ _ _ hi (Mod.alloc _ W o) (λk hk=>by rcases hk with h|h;exact .inl h;exact .inr (by subst h;simp))
def zjx(A:Act)(Wp:World->Prop):Exit->Act->World->Prop
 | .normal,a,w=>a=A/\Wp w
 |_,_,_=>False
theorem ZM {A:Act}{Wp:World->Prop}{w:World}(h:Wp w):zjx A Wp .normal A w:=⟨rfl,h⟩
variable {F:Fence}{n:Nat}{P:Program}
theorem ZN {c:Code}{Q:Exit->Act->World->Prop}{a A:Act}{w:World}{Wp:World->Prop}(h:c.wp P (zjx A Wp) a w)(h2:∀w',Wp w'->Q .normal A w'):c.wp P Q a w:=
 wp_mono h (λe a' w' hs=>by
  cases e with
  |normal=>obtain⟨rfl,hw⟩:=hs;exact h2 w' hw
  |_=>exact hs.elim)
