/- PARTS OF THE PROOF. -/
import Derived.Maps.AppendAt
import Derived.Laws.OwnMore
import Derived.OwnWalk
import Derived.StillTail
import Derived.StillTactics
import Derived.OrdersIn
import Derived.TacticsIn
import Derived.Test.YtofppfoioodblaaGreatDoorDA01
set_option maxRecDepth 8000
set_option maxHeartbeats 4000000
open Go.Proofs.Tryz
namespace Go.Proofs.YtofppfoioodblaaGreatDoor
section
open Go Go.RowKit
structure qe(P:Program)(kt:TypeId){K:Type} [DecidableEq K](enc:K->Value):Prop where
 eq:∀(k k':K)(w:World),(Op.equal kt (enc k) (enc k')).run P w=.ok (decide (k=k')) w
 chk:∀(b:Bool)(k:K)(w:World),(Instr.checkKey b 10000 kt (enc k)).run P w=.ok () w
 bits:∀k:K,Instr.sameBits 10000 (enc k) (enc k)=true
 now:∃u,P.underlying kt=some u/\∀k k':K,Instr.sameNow u (enc k) (enc k')=none∨Instr.sameNow u (enc k) (enc k')=some (decide (k=k'))
section
variable {P:Program}{kt:TypeId}{K:Type} [DecidableEq K] {enc:K->Value}
def j7 {V:Type}(k:K):List (K×V)->Nat->Option (Nat×V)
 | [],_=>none
 |(k',v)::l,i=>if k=k' then some (i,v)else j7 k l (i+1)
def zH {V:Type}(k:K):List (K×V)->Option V
 | []=>none
 |(k',v)::l=>if k=k' then some v else zH k l
theorem ZM {V:Type}(k:K):∀(l:List (K×V)) (i:Nat),(j7 k l i).map (·.2)=zH k l
 | [],_=>rfl
 |(k',v)::l,i=>by
  unfold j7 zH
  split
  ·rfl
  exact ZM k l (i+1)
theorem xO {V U:Type}(f:V->U)(k:K):∀l:List (K×V),zH k (l.map λp=>(p.1,f p.2))=(zH k l).map f
 | []=>rfl
 |(k',v)::l=>by
  have ih:=xO f k l;rw [List.map_cons]
  by_cases h:k=k'
  ·simp [zH,h]
  simp [zH,h,ih]
def yU(enc:K->Value)(es:List MapEntry)(l:List (K×Value)):Prop:=es.map (λe=>(e.key,e.val))=l.map (λp=>(enc p.1,p.2))
omit [DecidableEq K] in
theorem yU.nil:yU enc [] []:=rfl
omit [DecidableEq K] in
theorem yU.cons {e:MapEntry}{es:List MapEntry}{p:K×Value}{l:List (K×Value)} :yU enc (e::es) (p::l)↔(e.key=enc p.1/\e.val=p.2)/\yU enc es l:=by
 simp [yU]
theorem Ye(L:qe P kt enc){u:TypeDesc}(hu:P.underlying kt=some u)(k:K):∀(es:List MapEntry)(l:List (K×Value)) (i:Nat),yU enc es l->
 Instr.findNow u (enc k) es i=none∨Instr.findNow u (enc k) es i=some (j7 k l i)
 | [],[],i,_=>.inr rfl
 | [],p::l,i,h=>by simp [yU] at h
 |e::es,[],i,h=>by simp [yU] at h
 |e::es,(k',v)::l,i,h=>by
  obtain⟨⟨hk,hv⟩,h'⟩:=yU.cons.1 h;obtain⟨u',hu',hs⟩:=L.now;obtain rfl:u'=u:=Option.some.inj (hu'.symm.trans hu);have ih:=Ye L hu k es l (i+1) h';simp only [Instr.findNow,hk,j7]
  rcases hs k k' with h1|h1
  ·rw [h1];exact .inl rfl
  rw [h1]
  by_cases hkk:k=k'
  ·rw [if_pos hkk];simp [hkk];exact hv
  rw [if_neg hkk];simp only [hkk,decide_false];exact ih
theorem Zy(L:qe P kt enc)(k:K)(w:World):∀(es:List MapEntry)(l:List (K×Value)) (i:Nat),yU enc es l->
 (Instr.findAsking kt (enc k) es i).run P w=.ok (j7 k l i) w
 | [],[],i,_=>by simp [Instr.findAsking,j7,Sem.run_pure]
 | [],p::l,i,h=>by simp [yU] at h
 |e::es,[],i,h=>by simp [yU] at h
 |e::es,(k',v)::l,i,h=>by
  obtain⟨⟨hk,hv⟩,h'⟩:=yU.cons.1 h;have ih:=Zy L k w es l (i+1) h';simp only [Instr.findAsking,hk,j7,Sem.run_bind,L.eq,Result.andThen]
  by_cases hkk:k=k'
  ·simp only at hv;simp [hkk,Sem.run_pure,hv]
  simp [hkk,ih]
theorem yA(L:qe P kt enc)(k:K)(w:World)(es:List MapEntry)(l:List (K×Value))(h:yU enc es l):
 (Instr.findKey kt (enc k) es).run P w=.ok (j7 k l 0) w:=by
 obtain⟨u,hu,_⟩:=L.now;unfold Instr.findKey;simp only [Sem.run_bind,run_underlying hu,Result.andThen]
 rcases Ye L hu k es l 0 h with h1|h1
 ·rw [h1];exact Zy L k w es l 0 h
 rw [h1];simp [Sem.run_pure]
theorem j6 {w:World}{b:Nat}{es:Array MapEntry}{c:Nat}(h:w.heap[b]?=some (.map es c)):(getObj b).run P w=.ok (.map es c) w:=by simp [getObj,Sem.run,h]
theorem vt {w:World}{b:Nat}{es:Array MapEntry}{c:Nat}(o:Obj)(h:w.heap[b]?=some (.map es c)):(setObj b o).run P w=.ok () (w.putObj b o):=by simp [setObj,Sem.run,h,World.putObj]
def zZ(w:World)(b:Nat)(enc:K->Value)(l:List (K×Value)):Prop:=
 ∃es c,w.heap[b]?=some (.map es c)/\yU enc es.toList l/\es.toList.Pairwise (λx y=>x.born<y.born)/\(∀e∈es.toList,e.born<c)
omit [DecidableEq K] in
theorem zZ.lt {w:World}{b:Nat}{l:List (K×Value)}(h:zZ w b enc l):b<w.heap.size:=by
 obtain⟨es,c,hb,_⟩:=h;exact(N5.1 hb).1
omit [DecidableEq K] in
theorem zZ.kept {w w':World}{b:Nat}{l:List (K×Value)}(h:zZ w b enc l)(hb:w'.heap[b]?=w.heap[b]?):zZ w' b enc l:=by
 obtain⟨es,c,h1,h2⟩:=h;exact⟨es,c,hb.trans h1,h2⟩
omit [DecidableEq K] in
theorem zZ.made(w:World)(enc:K->Value):zZ (w.alloc (.map #[] 0)) w.heap.size enc []:=
 ⟨#[],0,World.alloc_heap_new w _,rfl,by simp,by simp⟩
omit [DecidableEq K] in
theorem zZ.size {w:World}{b:Nat}{l:List (K×Value)}(h:zZ w b enc l):∃es c,w.heap[b]?=some (.map es c)/\es.size=l.length:=by
 obtain⟨es,c,h1,h2,_⟩:=h;have:=congrArg List.length h2;simp at this
 exact⟨es,c,h1,this⟩
theorem zZ.lookup {w:World}{b:Nat}{l:List (K×Value)}(h:zZ w b enc l)(L:qe P kt enc){mt et:TypeId}(hm:P.underlying mt=some (.map kt et)){z:Value}(hz:(zeroValue et).run P w=.ok z w)(k:K):
 (Instr.lookup mt (.map (some b)) (enc k) false).run P w=.ok ((zH k l).getD z) w:=by
 obtain⟨es,c,hb,hB,_⟩:=h;unfold Instr.lookup;simp only [Sem.run_bind,run_underlying hm,Result.andThen,j6 hb,Sem.run_pure,L.chk,yA L k w _ _ hB];have hl:=ZM k l 0
 cases hi:j7 k l 0 with
 |none=>rw [hi] at hl;simp only [Option.map_none] at hl;rw [← hl];simp [hz]
 |some p=>rw [hi] at hl;simp only [Option.map_some] at hl;rw [← hl];simp [Sem.run_pure]
theorem zZ.lookup_ok {w:World}{b:Nat}{l:List (K×Value)}(h:zZ w b enc l)(L:qe P kt enc){mt et:TypeId}(hm:P.underlying mt=some (.map kt et)){z:Value}(hz:(zeroValue et).run P w=.ok z w)(k:K):
 (Instr.lookup mt (.map (some b)) (enc k) true).run P w=.ok (.tuple #[(zH k l).getD z,.bool (zH k l).isSome]) w:=by
 obtain⟨es,c,hb,hB,_⟩:=h;unfold Instr.lookup;simp only [Sem.run_bind,run_underlying hm,Result.andThen,j6 hb,Sem.run_pure,L.chk,yA L k w _ _ hB];have hl:=ZM k l 0
 cases hi:j7 k l 0 with
 |none=>rw [hi] at hl;simp only [Option.map_none] at hl;rw [← hl];simp [hz,Result.andThen]
 |some p=>rw [hi] at hl;simp only [Option.map_some] at hl;rw [← hl];simp [Sem.run_pure]
def put {V:Type}(k:K)(v:V):List (K×V)->List (K×V)
 | []=>[(k,v)]
 |(k',v')::l=>if k=k' then(k,v)::l else(k',v')::put k v l
theorem zeU {k:K}{v:Value} :∀ {l:List (K×Value)} {i:Nat},j7 k l i=none->put k v l=l++ [(k,v)]
 | [],_,_=>rfl
 |(k',v')::l,i,h=>by
  unfold j7 at h
  split at h
  ·cases h
  rename_i hk;unfold put;rw [if_neg hk,zeU h];rfl
theorem Jz {k:K}{v:Value} :∀ {l:List (K×Value)} {es:List MapEntry} {i j:Nat} {v0:Value},j7 k l i=some (j,v0)->yU enc es l->
 i<=j/\((es[j - i]?).map (·.key))=some (enc k)/\yU enc (es.modify (j - i) λe=> {e with key:=enc k,val:=v}) (put k v l)
 | [],es,i,j,v0,h,_=>by cases h
 |(k',v')::l,[],i,j,v0,h,hB=>by simp [yU] at hB
 |(k',v')::l,e::es,i,j,v0,h,hB=>by
  obtain⟨⟨h1,h2⟩,h3⟩:=yU.cons.1 hB;unfold j7 at h
  split at h
  ·rename_i hk
   cases h
   unfold put;rw [if_pos hk];refine⟨N0 _,?_,?_⟩
   ·simp [h1,hk]
   simp only [Nat.sub_self,List.modify_zero_cons]
   exact yU.cons.2 ⟨⟨rfl,rfl⟩,h3⟩
  rename_i hk
  obtain⟨a,b,c⟩:=Jz (v:=v) h h3;have hj:j - i=(j - (i+1))+1:=by omega
  refine⟨by omega,?_,?_⟩
  ·rw [hj];simpa using b
  rw [hj,List.modify_succ_cons]
  unfold put;rw [if_neg hk];exact yU.cons.2 ⟨⟨h1,h2⟩,c⟩
theorem zZ.update {w:World}{b:Nat}{l:List (K×Value)}(h:zZ w b enc l)(L:qe P kt enc){mt et:TypeId}(hm:P.underlying mt=some (.map kt et))(k:K)(v:Value):
 ∃o,(Instr.mapUpdate mt (.map (some b)) (enc k) v).run P w=.ok () (w.putObj b o)/\zZ (w.putObj b o) b enc (put k v l):=by
 have ac:=h.lt;obtain⟨es,c,hb,hB,hS,hC⟩:=h
 cases hi:j7 k l 0 with
 |none=>
  refine⟨.map (es.push {key:=enc k,val:=v,born:=c}) (c+1),?_,_,_,World.putObj_heap_same ac,?_,?_,?_⟩
  ·unfold Instr.mapUpdate
   simp only [Sem.run_bind,run_underlying hm,Result.andThen,j6 hb,L.chk,yA L k w _ _ hB,hi,vt _ hb]
  ·rw [zeU hi]
   simp [yU] at hB⊢
   rw [hB]
  ·simp [List.pairwise_append,hS];exact λe he=>hC e (by simpa using he)
  intro e he
  simp at he
  rcases he with he|rfl
  ·have:=hC e (by simpa using he);omega
  simp
 |some p=>
  obtain⟨j,v0⟩:=p;obtain⟨_,ab,ad⟩:=Jz (v:=v) hi hB;simp only [Nat.sub_zero] at ab ad
  have aa:((es[j]?).map (·.key)).getD (enc k)=enc k:=by
   rw [show es[j]?=es.toList[j]? by simp,ab];rfl
  refine⟨.map (es.modify j λe=> {e with key:=enc k,val:=v}) c,?_,_,_,World.putObj_heap_same ac,?_,?_,?_⟩
  ·unfold Instr.mapUpdate
   simp only [Sem.run_bind,run_underlying hm,Result.andThen,j6 hb,L.chk,yA L k w _ _ hB,hi,aa,Instr.keyThatStays,L.bits,if_true,Sem.run_pure,vt _ hb]
  ·simpa using ad
  ·have:(es.modify j λe=> {e with key:=enc k,val:=v}).toList.map (·.born)=es.toList.map (·.born):=by
    simp only [Array.toList_modify]
    apply List.ext_getElem?
    intro n;simp only [List.getElem?_map,List.getElem?_modify]
    by_cases hjn:j=n
    ·subst hjn;cases es.toList[j]?<;>simp
    simp [hjn]
   have h2:(es.toList.map (·.born)).Pairwise (·<·):=List.pairwise_map.2 hS;rw [← this] at h2;exact List.pairwise_map.1 h2
  intro e he
  simp only [Array.toList_modify] at he;obtain⟨n,hn⟩:=List.mem_iff_getElem?.1 he;rw [List.getElem?_modify] at hn
  cases he0:es.toList[n]? with
  |none=>rw [he0] at hn;simp at hn
  |some e0=>
   rw [he0] at hn;have h0:=hC e0 (List.mem_iff_getElem?.2 ⟨n,he0⟩)
   by_cases hjn:j=n
   ·simp [hjn] at hn;rw [← hn];exact h0
   simp [hjn] at hn;rw [← hn];exact h0
def del {V:Type}(k:K):List (K×V)->List (K×V)
 | []=>[]
 |(k',v')::l=>if k=k' then l else(k',v')::del k l
theorem zeV {k:K} :∀ {l:List (K×Value)} {i:Nat},j7 k l i=none->del k l=l
 | [],_,_=>rfl
 |(k',v')::l,i,h=>by
  unfold j7 at h
  split at h
  ·cases h
  rename_i hk;unfold del;rw [if_neg hk,zeV h]
theorem JA {k:K} :∀ {l:List (K×Value)} {es:List MapEntry} {i j:Nat} {v0:Value},j7 k l i=some (j,v0)->yU enc es l->
 i<=j/\j - i<es.length/\yU enc (es.eraseIdx (j - i)) (del k l)
 | [],es,i,j,v0,h,_=>by cases h
 |(k',v')::l,[],i,j,v0,h,hB=>by simp [yU] at hB
 |(k',v')::l,e::es,i,j,v0,h,hB=>by
  obtain⟨⟨h1,h2⟩,h3⟩:=yU.cons.1 hB;unfold j7 at h
  split at h
  ·rename_i hk
   cases h
   unfold del;rw [if_pos hk];exact⟨N0 _,by simp,by simpa using h3⟩
  rename_i hk
  obtain⟨a,b,c⟩:=JA h h3;have hj:j - i=(j - (i+1))+1:=by omega
  refine⟨by omega,by simp;omega,?_⟩;rw [hj,List.eraseIdx_cons_succ];unfold del;rw [if_neg hk];exact yU.cons.2 ⟨⟨h1,h2⟩,c⟩
theorem zZ.delete {w:World}{b:Nat}{l:List (K×Value)}(h:zZ w b enc l)(L:qe P kt enc){mt et:TypeId}(hm:P.underlying mt=some (.map kt et))(ats:Array TypeId)(rt:TypeId)(hat:ats[0]?=some mt)(k:K):
 ∃o,(Builtin.delete_ ats rt #[.map (some b),enc k]).run P w=.ok (.tuple #[]) (w.putObj b o)/\zZ (w.putObj b o) b enc (del k l):=by
 have ab:=h.lt;obtain⟨es,c,hb,hB,hS,hC⟩:=h
 cases hi:j7 k l 0 with
 |none=>
  refine⟨.map es c,?_,_,_,World.putObj_heap_same ab,?_,hS,hC⟩
  ·unfold Builtin.delete_
   simp [hat,Sem.run_bind,run_underlying hm,Result.andThen,j6 hb,L.chk,yA L k w _ _ hB,hi,vt _ hb]
  rw [zeV hi];exact hB
 |some p=>
  obtain⟨j,v0⟩:=p;obtain⟨_,hj,ac⟩:=JA hi hB;simp only [Nat.sub_zero] at hj ac;have aa:(es.eraseIdxIfInBounds j).toList=es.toList.eraseIdx j:=by simp
  refine⟨.map (es.eraseIdxIfInBounds j) c,?_,_,_,World.putObj_heap_same ab,?_,?_,?_⟩
  ·unfold Builtin.delete_
   simp [hat,Sem.run_bind,run_underlying hm,Result.andThen,j6 hb,L.chk,yA L k w _ _ hB,hi,vt _ hb]
  ·rw [aa];exact ac
  ·rw [aa];exact hS.sublist (List.eraseIdx_sublist _ _)
  rw [aa];exact λe he=>hC e ((List.eraseIdx_sublist _ _).mem he)
theorem Y5 {V U:Type}(f:V->U)(k:K)(v:V):∀l:List (K×V),put k (f v) (l.map λp=>(p.1,f p.2))=(put k v l).map λp=>(p.1,f p.2)
 | []=>rfl
 |(k',v')::l=>by
  have ih:=Y5 f k v l;rw [List.map_cons]
  by_cases h:k=k'
  ·simp [put,h]
  simp [put,h,ih]
theorem zaL {V U:Type}(f:V->U)(k:K):∀l:List (K×V),del k (l.map λp=>(p.1,f p.2))=(del k l).map λp=>(p.1,f p.2)
 | []=>rfl
 |(k',v')::l=>by
  have ih:=zaL f k l;rw [List.map_cons]
  by_cases h:k=k'
  ·simp [del,h]
  simp [del,h,ih]
end
end
section
open Go
abbrev MId:=Int×Nat
abbrev zx:=MId×List UInt8
def zz(m:zx):Bool:=decide (0<=m.1.1)&& decide (m.1.1<16)&& decide (m.2.length<=1000)&& decide (1<=m.1.2)&& decide (m.1.2<=4294967294)
def jk(m:zx):List UInt8:=[UInt8.ofNat (m.1.1 % 256).toNat] ++le4 m.1.2++le4 m.2.length++m.2
def yj(l:List zx):List UInt8×Int:=
 if 64<l.length then([],101)else if l.all zz then([UInt8.ofNat (l.length % 256)] ++l.flatMap jk,0)else([],100)
structure vF where
 tk:List Nat
 log:List zx
 ws:List (MId×zx)
def zT:Nat->List (MId×zx)->zx->List (MId×zx)×List zx
 |0,ws,x=>(del x.1 ws,[x])
 |n+1,ws,x=>match zH (x.1.1,(x.1.2+1)% 4294967296) (del x.1 ws)with
  |none=>(del x.1 ws,[x])
  |some y=>((zT n (del x.1 ws) y).1,x::(zT n (del x.1 ws) y).2)
def vG(i:Int):Bool:=decide (0<=i)&& decide (i<16)
def Jv(b:vF)(i:Int):Nat:=if vG i then((b.tk[i.toNat]?.getD 0)+1)% 4294967296 else 0
def zhw(b:vF)(k:MId):Bool:=vG k.1 && decide (1<=k.2)&&((zH k b.ws).isSome||decide (k.2<=b.tk[k.1.toNat]?.getD 0))
def vR(tk:List Nat)(l:List zx):List Nat:=l.foldl (λt x=>t.set x.1.1.toNat x.1.2) tk
def xF(b:vF)(m:zx):vF×List zx×Int:=
 if zz m=false then(b,[],100)
 else if m.1.2≠Jv b m.1.1 then((if zhw b m.1 then b else {b with ws:=put m.1 m b.ws}),[],0)
 else({tk:=vR b.tk (zT b.ws.length b.ws m).2,log:=b.log++(zT b.ws.length b.ws m).2,ws:=(zT b.ws.length b.ws m).1},(zT b.ws.length b.ws m).2,0)
structure v8(b:vF):Prop where
 sixteen:b.tk.length=16
 most:∀n∈b.tk,n<=4294967294
 keys:∀p∈b.ws,p.2.1=p.1/\zz p.2=true
def qf:vF:={tk:=List.replicate 16 0,log:=[],ws:=[] }
def zU(b:vF):List zx->vF×List zx
 | []=>(b,[])
 |m::l=>((zU (xF b m).1 l).1,(xF b m).2.1++(zU (xF b m).1 l).2)
structure jz where
 kind:Int
 epoch:Nat
 ver:Int
 msgs:List zx
def qg(e:jz):Bool:=
 if e.kind=1 then decide (e.ver=0)
 else if e.kind=2 then decide (e.msgs.length=0)&& decide (0<=e.ver)&& decide (e.ver<=255)
 else if e.kind=3 then decide (e.msgs.length=0)&& decide (e.ver=0)
 else false
def ju(e:jz):List UInt8×Int:=
 if qg e=false then([],140)
 else if(yj e.msgs).2≠0 then([],140)
 else if 4000<([UInt8.ofNat (e.kind % 256).toNat] ++le4 e.epoch++ [UInt8.ofNat (e.ver % 256).toNat] ++(yj e.msgs).1).length then([],140)
 else([UInt8.ofNat (e.kind % 256).toNat] ++le4 e.epoch++ [UInt8.ofNat (e.ver % 256).toNat] ++(yj e.msgs).1,0)
def JB(e:jz):Bool:=decide ((ju e).2=0)
abbrev ZJ:=Nat×Int×Int
structure yB where
 book:vF
 eras:List ZJ
 count:Int
 sw:Bool
def vo(l:List ZJ):ZJ:=l.getLast?.getD (0,0,0)
def qu(n:ZJ):List ZJ->Int->Int
 | [],v=>v
 |e::l,v=>if e=n then v else qu n l e.2.1
def xy(f:yB)(v:Int)(sw:Bool):yB:={f with eras:=f.eras++ [(((vo f.eras).1+1)% 4294967296,v,f.count)],sw:=sw}
def jX(f:yB)(e:jz):yB×List zx×Bool×Int:=
 if JB e=false then(f,[],false,140)
 else if e.epoch≠(vo f.eras).1 then({f with count:=f.count+1},[],false,0)
 else if e.kind=1 then({f with count:=f.count+1,book:=(zU f.book e.msgs).1},(zU f.book e.msgs).2,false,0)
 else if e.kind=2 then
  if j4 (vo f.eras).2.1 e.ver≠0 then({f with count:=f.count+1},[],false,0)
  else(xy {f with count:=f.count+1} e.ver true,[],true,0)
 else if f.sw=false then({f with count:=f.count+1},[],false,0)
 else(xy {f with count:=f.count+1} (qu (vo f.eras) f.eras 0) false,[],true,0)
def ZN(v:Int):yB:={book:=qf,eras:=[(1,v,0)],count:=0,sw:=false}
end
section
open Go Go.RowKit
abbrev Own:=Nat->List Nat
def Sub(t u:List Nat):Prop:=t<+:u
theorem Sub.rfl'(t:List Nat):Sub t t:=U0 t
theorem Sub.child(t:List Nat)(i:Nat):Sub t (t++ [i]):=List.prefix_append t [i]
theorem Sub.trans {a b c:List Nat}(h:Sub a b)(k:Sub b c):Sub a c:=List.IsPrefix.trans h k
theorem zj {t:List Nat}(h:t≠ []):¬Sub t []:=λe=>h (List.prefix_nil.1 e)
def zaM(t u:List Nat):Prop:=¬Sub t u/\¬Sub u t
theorem zaM.sub {t u v:List Nat}(h:zaM t u)(hv:Sub u v):¬Sub t v:=λe=>by
 rcases List.prefix_or_prefix_of_prefix e hv with h1|h1
 ·exact h.1 h1
 exact h.2 h1
theorem zaM.symm {t u:List Nat}(h:zaM t u):zaM u t:=⟨h.2,h.1⟩
theorem zR(t:List Nat){i j:Nat}(h:i≠j):zaM (t++ [i]) (t++ [j]):=by
 constructor
 ·intro e;have:=(List.prefix_append_right_inj t).1 e;simp at this;exact h this
 intro e;have:=(List.prefix_append_right_inj t).1 e;simp at this;exact h this.symm
theorem zO(t:List Nat)(i:Nat):¬Sub (t++ [i]) t:=λe=>by
 have:=List.IsPrefix.length_le e;rw [N1,U2] at this;omega
structure zp(t:List Nat)(ow:Own)(W:World)(ow':Own)(W':World):Prop where
 mod:Mod (λk=>Sub t (ow k)) W W'
 agree:∀k,k<W.heap.size->ow' k=ow k
theorem zp.refl(t:List Nat)(ow:Own)(W:World):zp t ow W ow W:=⟨Mod.refl _ _,λ_ _=>rfl⟩
theorem zp.trans {t:List Nat}{o1 o2 o3:Own}{A B C:World}(h:zp t o1 A o2 B)(k:zp t o2 B o3 C):zp t o1 A o3 C:=
 ⟨h.mod.trans k.mod (λ_ _ e=>e) (λi hi e=>by rw [h.agree i hi] at e;exact e),λi hi=>(k.agree i (Nat.lt_of_lt_of_le hi h.mod.size)).trans (h.agree i hi)⟩
theorem zp.mono {t u:List Nat}{o1 o2:Own}{A B:World}(h:zp u o1 A o2 B)(hs:Sub t u):zp t o1 A o2 B:=
 ⟨h.mod.mono (λ_ _ e=>hs.trans e),h.agree⟩
theorem zp.of_below(t:List Nat)(ow:Own){W W':World}(h:Below W.heap.size W W'):zp t ow W ow W':=⟨Mod.of_below _ h,λ_ _=>rfl⟩
theorem zp.alloc(t:List Nat)(ow:Own)(W:World)(o:Obj):zp t ow W ow (W.alloc o):=⟨Mod.alloc _ W o,λ_ _=>rfl⟩
theorem zp.drew(t:List Nat)(ow:Own)(W:World):zp t ow W ow W.drew:=⟨Mod.drew _ W,λ_ _=>rfl⟩
theorem zp.drewN(t:List Nat)(ow:Own)(W:World)(n:Nat):zp t ow W ow (W.drewN n):=⟨⟨rfl,rfl,rfl,N0 _,λ_ _ _=>rfl⟩,λ_ _=>rfl⟩
theorem zp.setCell {t:List Nat}{ow:Own}(W:World)(a:Addr)(v:Value)(h:Sub t (ow a.block)):zp t ow W ow (W.setCell a v):=⟨Mod.setCell W a v h,λ_ _=>rfl⟩
theorem zp.setNew {t:List Nat}{ow o1:Own}{W W1:World}(h:zp t ow W o1 W1)(a:Addr)(v:Value)(ha:W.heap.size<=a.block):zp t ow W o1 (W1.setCell a v):=
 ⟨h.mod.trans (Mod.setCell (X:=λk=>k=a.block) W1 a v rfl) (λ_ _ e=>e) (λi hi e=>by omega),h.agree⟩
theorem zp.putObj {t:List Nat}{ow:Own}(W:World)(r:Nat)(o:Obj)(h:Sub t (ow r)):zp t ow W ow (W.putObj r o):=⟨Mod.putObj W r o h,λ_ _=>rfl⟩
theorem zp.putNew {t:List Nat}{ow o1:Own}{W W1:World}(h:zp t ow W o1 W1)(r:Nat)(o:Obj)(ha:W.heap.size<=r):zp t ow W o1 (W1.putObj r o):=
 ⟨h.mod.trans (Mod.putObj (X:=λk=>k=r) W1 r o rfl) (λ_ _ e=>e) (λi hi e=>by omega),h.agree⟩
theorem zp.grown {t:List Nat}{ow:Own}{W W':World}{row:Option Nat}(h:W.grownBy W' row)(hr:∀k,row=some k->Sub t (ow k)):zp t ow W ow W':=
 ⟨⟨h.os,h.tape,h.output,h.size,λk hk hn=>h.block k hk (λe=>hn (hr k e.symm))⟩,λ_ _=>rfl⟩
theorem zp.own {t:List Nat}{ow o1 o2:Own}{W W1:World}(h:zp t ow W o1 W1)(h2:∀k,k<W.heap.size->o2 k=o1 k):zp t ow W o2 W1:=
 ⟨h.mod,λk hk=>(h2 k hk).trans (h.agree k hk)⟩
theorem zp.size {t:List Nat}{ow ow':Own}{W W':World}(h:zp t ow W ow' W'):W.heap.size<=W'.heap.size:=h.mod.size
theorem zp.block {t:List Nat}{ow ow':Own}{W W':World}(h:zp t ow W ow' W'){k:Nat}(hk:k<W.heap.size)(hn:¬Sub t (ow k)):W'.heap[k]?=W.heap[k]?:=h.mod.block k hk hn
theorem zp.cell {t:List Nat}{ow ow':Own}{W W':World}(h:zp t ow W ow' W'){p:Addr}(hk:p.block<W.heap.size)(hn:¬Sub t (ow p.block)):W'.cell? p=W.cell? p:=h.mod.cell hk hn
theorem zp.below {t:List Nat}{ow ow':Own}{W W':World}{B:Nat}(h:zp t ow W ow' W')(hB:B<=W.heap.size)(hn:∀k,k<B->¬Sub t (ow k)):Below B W W':=
 ⟨h.mod.os,h.mod.tape,h.mod.output,h.mod.size,λk hk=>h.mod.block k (by omega) (hn k hk)⟩
def yC(t:List Nat)(A:Own->World->Prop):Prop:=
 ∀ow ow' W W',A ow W->W.heap.size<=W'.heap.size->(∀k,k<W.heap.size->Sub t (ow k)->ow' k=ow k/\W'.heap[k]?=W.heap[k]?)->A ow' W'
theorem yC.step {t u:List Nat}{A:Own->World->Prop}(hA:yC t A){ow ow':Own}{W W':World}(h:A ow W)(hs:zp u ow W ow' W')(hd:zaM u t):A ow' W':=
 hA _ _ _ _ h hs.size (λk hk hk2=>⟨hs.agree k hk,hs.block hk (hd.sub hk2)⟩)
theorem yC.below {t:List Nat}{A:Own->World->Prop}(hA:yC t A){ow:Own}{W W':World}(h:A ow W)(hs:Below W.heap.size W W'):A ow W':=
 hA _ _ _ _ h hs.size (λk hk _=>⟨rfl,hs.block k hk⟩)
theorem yC.own {t:List Nat}{A:Own->World->Prop}(hA:yC t A){ow ow':Own}{W:World}(h:A ow W)(hs:∀k,k<W.heap.size->Sub t (ow k)->ow' k=ow k):A ow' W:=
 hA _ _ _ _ h (N0 _) (λk hk h2=>⟨hs k hk h2,rfl⟩)
noncomputable def Own.ext(ow:Own)(n:Nat)(S:Nat->Prop)(t:List Nat):Own:=λk=>if k<n then ow k else(open Classical in if S k then t else [])
theorem Own.ext_old {ow:Own}{n:Nat}{S:Nat->Prop}{t:List Nat}{k:Nat}(h:k<n):ow.ext n S t k=ow k:=if_pos h
theorem Own.ext_new {ow:Own}{n:Nat}{S:Nat->Prop}{t:List Nat}{k:Nat}(h:n<=k)(hs:S k):ow.ext n S t k=t:=by
 unfold Own.ext;rw [if_neg (by omega),if_pos hs]
theorem Own.ext_none {ow:Own}{n:Nat}{S:Nat->Prop}{t:List Nat}{k:Nat}(h:n<=k)(hs:¬S k):ow.ext n S t k=[]:=by
 unfold Own.ext;rw [if_neg (by omega),if_neg hs]
noncomputable abbrev Own.cut(ow:Own)(w:World):Own:=ow.ext w.heap.size (λ_=>False) []
theorem Own.cut_old {ow:Own}{w:World}{k:Nat}(h:k<w.heap.size):ow.cut w k=ow k:=Own.ext_old h
theorem Own.cut_new {ow:Own}{w:World}{k:Nat}(h:w.heap.size<=k):ow.cut w k=[]:=Own.ext_none h (λh=>h)
theorem yC.cut {t:List Nat}{A:Own->World->Prop}(hA:yC t A){ow:Own}{w W:World}(h:A ow w)(hb:Below w.heap.size w W):A (ow.cut w) W:=
 hA _ _ _ _ h hb.size (λk hk _=>⟨Own.cut_old hk,hb.block k hk⟩)
theorem zp.wrap {t:List Nat}{ow ow2:Own}{w W w2:World}(hb:Below w.heap.size w W)(h:zp t (ow.cut w) W ow2 w2):zp t ow w ow2 w2:=
 ⟨(Mod.of_below (λk=>Sub t (ow k)) hb).trans h.mod (λ_ _ e=>e) (λk hk e=>by rwa [Own.cut_old hk] at e),λk hk=>(h.agree k (Nat.lt_of_lt_of_le hk hb.size)).trans (Own.cut_old hk)⟩
theorem zp.free {t:List Nat}(ht:t≠ []){ow ow2:Own}{w W w2:World}(h:zp t (ow.cut w) W ow2 w2){k:Nat}(hk:w.heap.size<=k)(hk2:k<W.heap.size):w2.heap[k]?=W.heap[k]?/\ow2 k=[]:=
 ⟨h.block hk2 (by rw [Own.cut_new hk];exact zj ht),(h.agree k hk2).trans (Own.cut_new hk)⟩
theorem yC.put {t:List Nat}(ht:t≠ []){A:Own->World->Prop}(hA:yC t A){ow:Own}{w:World}(h:A ow w){D:Nat}(hD:ow D=[])(o:Obj):A ow (w.putObj D o):=
 hA _ _ _ _ h (by simp) (λk hk hs=>⟨rfl,U1 (λe=>by subst e;rw [hD] at hs;exact zj ht hs)⟩)
abbrev Row(w:World)(e:TypeId)(size:Nat)(v:Value)(n:Nat)(xs:List Value):Prop:=w.ownsRow 0 e size v n xs
theorem jc(w:World)(e:TypeId)(size:Nat):Row w e size (.slice none 0 0) 0 []:=World.ownsRow_nil w 0 e size
theorem Row.lt {w:World}{e:TypeId}{size:Nat}{v:Value}{n:Nat}{xs:List Value}(h:Row w e size v n xs){g:Nat}(hg:v.ownBlock=some g):g<w.heap.size:=by
 rcases h.2 with⟨rfl,_⟩|⟨g',cap,cur,rfl,_,hgg,_⟩
 ·cases hg
 cases hg;exact(N5.1 hgg).1
theorem Row.kept {w w':World}{e:TypeId}{size:Nat}{v:Value}{n:Nat}{xs:List Value}(h:Row w e size v n xs)(hb:∀g,v.ownBlock=some g->w'.heap[g]?=w.heap[g]?):Row w' e size v n xs:=by
 rcases h with⟨h1,h2⟩
 refine⟨h1,?_⟩
 rcases h2 with h2|⟨g,cap,cur,rfl,hb0,hg,r⟩
 ·exact .inl h2
 exact .inr ⟨g,cap,cur,rfl,hb0,(hb g rfl).trans hg,r⟩
theorem Row.below {w w':World}{e:TypeId}{size:Nat}{v:Value}{n:Nat}{xs:List Value}(h:Row w e size v n xs)(hb:Below w.heap.size w w'):Row w' e size v n xs:=
 h.kept (λg hg=>hb.block g (h.lt hg))
theorem Row.mod {X:Nat->Prop}{w w':World}{e:TypeId}{size:Nat}{v:Value}{n:Nat}{xs:List Value}(h:Row w e size v n xs)(hm:Mod X w w')(hx:∀g,v.ownBlock=some g->¬X g):Row w' e size v n xs:=
 h.kept (λg hg=>hm.block g (h.lt hg) (hx g hg))
theorem Row.step {t:List Nat}{ow ow':Own}{w w':World}{e:TypeId}{size:Nat}{v:Value}{n:Nat}{xs:List Value}(h:Row w e size v n xs)(hs:zp t ow w ow' w')(hx:∀g,v.ownBlock=some g->¬Sub t (ow g)):Row w' e size v n xs:=
 h.mod hs.mod hx
theorem Row.type {w:World}{e:TypeId}{size:Nat}{v:Value}{n:Nat}{xs:List Value}(h:Row w e size v n xs){g:Nat}(hg:v.ownBlock=some g):∃cur,w.heap[g]?=some (.cells cur e (0,0)):=by
 rcases h.2 with⟨rfl,_⟩|⟨g',cap,cur,rfl,_,hgg,_⟩
 ·cases hg
 cases hg;exact⟨cur,hgg⟩
theorem Row.form {w:World}{e:TypeId}{size:Nat}{v:Value}{n:Nat}{xs:List Value}(h:Row w e size v n xs):(v=.slice none 0 0/\n=0/\xs=[])∨∃g cap,v=.slice (some ⟨g,0,none⟩) n cap/\n<=cap/\cap<=maxLen:=by
 rcases h.2 with⟨rfl,h0⟩|⟨g,cap,cur,rfl,_,_,hc,hm,_⟩
 ·subst h0;exact .inl ⟨rfl,rfl,N9 (by simpa using h.1)⟩
 exact .inr ⟨g,cap,rfl,hc,hm⟩
theorem Blk.ne_map {w:World}{B mb:Nat}{cs:Array Value}{T:TypeId}{K:Type}{enc:K->Value}{l:List (K×Value)}(h:Blk w B cs T)(hM:zZ w mb enc l):B≠mb:=by
 rintro rfl;obtain⟨es,c,hb,_⟩:=hM;exact absurd (h.symm.trans hb) (by simp)
theorem Row.ne_map {w:World}{e:TypeId}{size:Nat}{v:Value}{n:Nat}{xs:List Value}{mb:Nat}{K:Type}{enc:K->Value}{l:List (K×Value)}(h:Row w e size v n xs)(hM:zZ w mb enc l){g:Nat}(hg:v.ownBlock=some g):g≠mb:=by
 rintro rfl;obtain⟨aa,hc⟩:=h.type hg;obtain⟨es,c,hb,_⟩:=hM;exact absurd (hc.symm.trans hb) (by simp)
theorem Row.ne_blk {w:World}{e:TypeId}{size:Nat}{v:Value}{n:Nat}{xs:List Value}{B:Nat}{cs:Array Value}{T:TypeId}(h:Row w e size v n xs)(hB:Blk w B cs T)(hT:e≠T){g:Nat}(hg:v.ownBlock=some g):g≠B:=by
 rintro rfl;obtain⟨aa,hc⟩:=h.type hg;have:=hc.symm.trans hB;simp at this
 exact hT this.2
def Src(w:World)(v:Value)(size n:Nat)(xs:List Value):Prop:=
 xs.length=n*size/\((v=.slice none 0 0/\n=0)∨∃b off cap,v=.slice (some ⟨b,off,none⟩) n cap/\n<=cap/\∀j u,xs[j]?=some u->w.cell? ⟨b,off+j,none⟩=some u)
theorem Row.src {w:World}{e:TypeId}{size:Nat}{v:Value}{n:Nat}{xs:List Value}(h:Row w e size v n xs):Src w v size n xs:=by
 refine⟨h.1,?_⟩
 rcases h.2 with h0|⟨g,cap,cur,rfl,_,hg,hc,_,_,ht⟩
 ·exact .inl h0
 refine .inr ⟨g,0,cap,rfl,hc,λj u hu=>?_⟩
 have aa:j<n*size:=by rw [← h.1];exact(N6.1 hu).1
 rw [Nat.zero_add,h.cellAt j aa,hu]
theorem zld(w:World)(size:Nat):Src w (.slice none 0 0) size 0 []:=⟨by simp,.inl ⟨rfl,rfl⟩⟩
theorem Src.kept {w w':World}{v:Value}{size n:Nat}{xs:List Value}(h:Src w v size n xs)(hb:∀a l c,v=.slice (some a) l c->w'.heap[a.block]?=w.heap[a.block]?):Src w' v size n xs:=by
 refine⟨h.1,?_⟩
 rcases h.2 with h0|⟨b,off,cap,rfl,hc,hr⟩
 ·exact .inl h0
 exact .inr ⟨b,off,cap,rfl,hc,λj u hu=>(World.cell?_of_block (w:=w) (w':=w') (a:=⟨b,off+j,none⟩) (show w'.heap[b]?=w.heap[b]? from hb ⟨b,off,none⟩ _ _ rfl)).trans (hr j u hu)⟩
theorem jx {w:World}{p:Addr}{u:Value}(h:w.cell? p=some u):p.block<w.heap.size:=by
 rcases Nat.lt_or_ge p.block w.heap.size with h'|h'
 ·exact h'
 simp [World.cell?,Array.getElem?_eq_none h'] at h
theorem Src.below {w w':World}{v:Value}{size n:Nat}{xs:List Value}(h:Src w v size n xs)(hb:Below w.heap.size w w'):Src w' v size n xs:=by
 refine⟨h.1,?_⟩
 rcases h.2 with h0|⟨b,off,cap,rfl,hc,hr⟩
 ·exact .inl h0
 exact .inr ⟨b,off,cap,rfl,hc,λj u hu=>(hb.cell (jx (hr j u hu))).trans (hr j u hu)⟩
theorem Src.step {t:List Nat}{ow ow':Own}{w w':World}{v:Value}{size n:Nat}{xs:List Value}(h:Src w v size n xs)(hs:zp t ow w ow' w')(hn:∀a l c,v=.slice (some a) l c->¬Sub t (ow a.block)):Src w' v size n xs:=by
 refine⟨h.1,?_⟩
 rcases h.2 with h0|⟨b,off,cap,rfl,hc,hr⟩
 ·exact .inl h0
 exact .inr ⟨b,off,cap,rfl,hc,λj u hu=>(hs.cell (p:=⟨b,off+j,none⟩) (jx (hr j u hu)) (show¬Sub t (ow b)from hn ⟨b,off,none⟩ _ _ rfl)).trans (hr j u hu)⟩
theorem jD {w:World}{b:Nat}{cs:Array Value}{t:TypeId}{n size cap:Nat}(h:Blk w b cs t)(hs:cs.size=n*size)(hc:n<=cap):Src w (.slice (some ⟨b,0,none⟩) n cap) size n cs.toList:=
 ⟨by simpa using hs,.inr ⟨b,0,cap,rfl,hc,λj u hu=>by rw [Nat.zero_add,h.cell j];simpa using hu⟩⟩
theorem Row.shape {w:World}{e:TypeId}{size:Nat}{v:Value}{n:Nat}{xs:List Value}(h:Row w e size v n xs):∃a m c,v=.slice a m c:=by
 rcases h.form with⟨h, -⟩|⟨g,cap,h, -⟩
 ·exact⟨_,_,_,h⟩
 exact⟨_,_,_,h⟩
theorem Mod.grown {X:Nat->Prop}{W W':World}{row:Option Nat}(h:W.grownBy W' row)(hr:∀k,row=some k->X k):Mod X W W':=⟨h.os,h.tape,h.output,h.size,λk hk hn=>h.block k hk (λe=>hn (hr k e.symm))⟩
theorem jo {w:World}{p:Addr}{v:Value}(h:w.cell? p=some v)(o:Obj):(w.alloc o).cell? p=some v:=(((N2 w.heap.size w).alloc (N0 _) o).cell (jx h)).trans h
structure Yf(P:Program)(t e:TypeId)(size bytes:Nat)(z:Value):Prop where
 under:P.underlying t=some (.slice e)
 info:(P.info? e).map (λi=>(i.zero,i.size,i.bytes))=some (some z,size,bytes)
 cells:z.cells.size=size
 pos:0<size
 small:bytes<=4096
theorem zM {P:Program}{t e:TypeId}{size bytes:Nat}{z:Value}(T:Yf P t e size bytes z){w:World}{v src:Value}{n m:Nat}{xs news:List Value}
 (hv:Row w e size v n xs) (hs:Src w src size m news) (h1:∀u∈news,u.oneCell'=true) (hb:n+m<=1073741824) (ty:TypeId):
 ∃v' w',(Builtin.append_ #[t,t] ty #[v,src]).run P w=.ok v' w'/\Row w' e size v' (n+m) (xs++news)/\w.grownBy w' v.ownBlock/\(v'.ownBlock=v.ownBlock∨v'.ownBlock=some w.heap.size):=by
 obtain⟨i,hi,ac,ae,ad⟩:=info_parts T.info
 rcases hs.2 with⟨rfl,rfl⟩|⟨b,off,cap,rfl,_,hr⟩
 ·have hn:news=[]:=N9 (by simpa using hs.1)
  subst hn;exact⟨v,w,run_append_owned_none (w:=w) 0 t ty e i size T.under hi v n xs hv,by simpa using hv,⟨rfl,rfl,rfl,N0 _,λ_ _ _=>rfl⟩,.inl rfl⟩
 have ab:∀j,(⟨b,off,none⟩:Addr).add j=⟨b,off+j,none⟩:=λj=>by unfold Addr.add;split<;>simp_all
 have aa:(n+m)*bytes<=140737488355328:=by
  have:=Nat.mul_le_mul hb T.small;omega
 obtain⟨v',w',h2,h3,h4,_,h5⟩:=run_append_own_at (P:=P) w 0 t ty e i z size bytes T.under hi ac ae ad T.cells T.pos v n xs hv ⟨b,off,none⟩ m cap news hs.1
  (λj u hu=>by rw [ab];exact hr j u hu) h1 (by unfold maxLen;omega) aa (Nat.zero_le _)
 exact⟨v',w',h2,h3,h4,h5⟩
theorem zv {P:Program}{w:World}{ops:Array Oper}{rest:List Oper}{o:Oper}{a:Act}{Q:Exit->Act->World->Prop}(hgd:o.guard=none)(s x:Operand)(t:TypeId)
 (ho:o.op=.call {callee:=.builtin .append,args:=#[s,x],argTypes:=#[t,t] }) {v src:Value} (hs:a.eval s=v) (hx:a.eval x=src)
 {v':Value} {w':World} (hr:(Builtin.append_ #[t,t] o.type #[v,src]).run P w=.ok v' w') (h:wpList P ops Q rest (a.put o.dst v') w'):wpList P ops Q (o::rest) a w:=by
 refine wpList_plain hgd λK hK=>?_
 unfold Oper.wp execOp;simp only [ho,resolve,invoke,builtin,Sem.run_bind,Sem.run_pure,Result.andThen_ok,List.map_toArray,List.map_cons,List.map_nil,hs,hx,hr];exact hK _ _ h
theorem Qw {P:Program}{w:World}{o:Oper}{a:Act}{K:Act->World->Prop}{Q:Exit->Act->World->Prop}(s x:Operand)(t:TypeId)
 (ho:o.op=.call {callee:=.builtin .append,args:=#[s,x],argTypes:=#[t,t] }) {v src:Value} (hs:a.eval s=v) (hx:a.eval x=src)
 {v':Value} {w':World} (hr:(Builtin.append_ #[t,t] o.type #[v,src]).run P w=.ok v' w') (h:K (a.put o.dst v') w'):o.wp P a w K Q:=by
 unfold Oper.wp execOp;simp only [ho,resolve,invoke,builtin,Sem.run_bind,Sem.run_pure,Result.andThen_ok,List.map_toArray,List.map_cons,List.map_nil,hs,hx,hr];exact h
theorem xG {P:Program}{w:World}{ops:Array Oper}{rest:List Oper}{o:Oper}{a:Act}{Q:Exit->Act->World->Prop}(hgd:o.guard=none)(s x:Operand)(t1 t2:TypeId)
 (ho:o.op=.call {callee:=.builtin .delete,args:=#[s,x],argTypes:=#[t1,t2] }) {v k:Value} (hs:a.eval s=v) (hx:a.eval x=k)
 {v':Value} {w':World} (hr:(Builtin.delete_ #[t1,t2] o.type #[v,k]).run P w=.ok v' w') (h:wpList P ops Q rest (a.put o.dst v') w'):wpList P ops Q (o::rest) a w:=by
 refine wpList_plain hgd λK hK=>?_
 unfold Oper.wp execOp;simp only [ho,resolve,invoke,builtin,Sem.run_bind,Sem.run_pure,Result.andThen_ok,List.map_toArray,List.map_cons,List.map_nil,hs,hx,hr];exact hK _ _ h
theorem jO {F:Fence}{k:Nat}{P:Program}{w:World}{ops:Array Oper}{rest:List Oper}{o:Oper}{a:Act}{Q:Exit->Act->World->Prop}(hgd:o.guard=none)(s x:Operand)(t:TypeId)
 (ho:o.op=.call {callee:=.builtin .append,args:=#[s,x],argTypes:=#[t,t] }) {v src:Value} (hs:a.eval s=v) (hx:a.eval x=src)
 {v':Value} {w':World} (hr:(Builtin.append_ #[t,t] o.type #[v,src]).run P w=.ok v' w') (h:wpListIn F k P ops Q rest (a.put o.dst v') w'):wpListIn F k P ops Q (o::rest) a w:=by
 refine wpListIn_plain hgd λK hK=>?_
 unfold Oper.wpIn;refine⟨?_,?_⟩
 ·simp [Oper.about,ho,resolve,Target.leads,Sem.run_pure]
 rw [Oper.semAt_plain F _ _ (by rw [ho];intro c hc';cases hc')]
 simp [execOp,ho,resolve,invoke,builtin,hs,hx,hr,Result.andThen]
 exact hK _ _ h
theorem Jc.alloc {σ:Type}{I:σ->(Nat->Prop)->World->Prop}(h:Jc I){s:σ}{X:Nat->Prop}{W:World}(o:Obj)(hi:I s X W):I s (λk=>X k∨k=W.heap.size) (W.alloc o):=
 h _ _ _ _ _ hi (Mod.alloc _ W o) (λk hk=>by rcases hk with h|h;exact .inl h;exact .inr (by subst h;simp))
def zkZ(A:Act)(Wp:World->Prop):Exit->Act->World->Prop
 | .normal,a,w=>a=A/\Wp w
 |_,_,_=>False
theorem JC {A:Act}{Wp:World->Prop}{w:World}(h:Wp w):zkZ A Wp .normal A w:=⟨rfl,h⟩
variable {F:Fence}{n:Nat}{P:Program}
theorem JD {c:Code}{Q:Exit->Act->World->Prop}{a A:Act}{w:World}{Wp:World->Prop}(h:c.wp P (zkZ A Wp) a w)(h2:∀w',Wp w'->Q .normal A w'):c.wp P Q a w:=
 wp_mono h (λe a' w' hs=>by
  cases e with
  |normal=>obtain⟨rfl,hw⟩:=hs;exact h2 w' hw
  |_=>exact hs.elim)
end
section
open Go Go.RowKit Go.Shelf Go.Extern.Stop Go.Stop Go.Extern
attribute [local go_sem] Oper.semAt_some zB zo
def idV(k:MId):Value:=.agg #[.int .i64 k.1,.int .u32 k.2]
def vO(m:zx):Value:=.agg #[.int .i64 m.1.1,.int .u32 m.1.2,.string (bs m.2)]
def zh(m:zx):List Value:=[.int .i64 m.1.1,.int .u32 m.1.2,.string (bs m.2)]
theorem y6(i:Int)(w:World):Calls prog 132 #[.int .i64 i] w λe w'=>e=.returned (.bool (vG i))/\w'=w:=by
 by_cases h:i<0
 have t0:decide (0<=i)=false:=by simp;omega
 rotate_left
 have t0:decide (0<=i)=true:=by simp;omega
 all_goals
  go_enter func132,ntmps132
  go_wp2;go_ret
  exact⟨by simp [vG,t0],rfl⟩
theorem vS(i:Int)(c:Nat)(d:List UInt8)(w:World):Calls prog 91 #[.agg #[.int .i64 i,.int .u32 c,.string (bs d)]] w λe w'=>
 e=.returned (.bool (zz ((i,c),d)))/\Below w.heap.size w w':=by
 have hs:=zI d
 cases hn:vG i
 ·have hr:zz ((i,c),d)=false:=by simp only [vG] at hn;simp [zz,hn]
  go_enter func91,ntmps91
  go_wp2_with (go_at_call 132;refine(y6 _ _).mono ?_;rintro e w1 ⟨rfl,rfl⟩)
  go_ret
  exact⟨by rw [hr];rfl,pbx⟩
 have aa:decide (0<=i)=true/\decide (i<16)=true:=by simpa [vG] using hn
 by_cases hl:d.length<=1000
 ·have t1:decide ((1000:Int)<((bs d).size:Int))=false:=by rw [hs];simp;omega
  by_cases h1:1<=c
  ·have t2:decide (1<=(c:Int))=true:=by simp;omega
   by_cases h2:c<=4294967294
   have t3:decide ((c:Int)<=4294967294)=true:=by simp;omega
   have hr:zz ((i,c),d)=true:=by simp only [zz,aa.1,aa.2];simp [hl,h1,h2]
   rotate_left
   have t3:decide ((c:Int)<=4294967294)=false:=by simp;omega
   have hr:zz ((i,c),d)=false:=by simp [zz,h2]
   all_goals
    clear hs hl h1 h2
    go_enter func91,ntmps91
    go_wp2_with (go_at_call 132;refine(y6 _ _).mono ?_;rintro e w1 ⟨rfl,rfl⟩)
    go_ret
    exact⟨by rw [hr];rfl,pbx⟩
  have t2:decide (1<=(c:Int))=false:=by simp;omega
  have hr:zz ((i,c),d)=false:=by simp [zz,h1]
  clear hs hl h1
  go_enter func91,ntmps91
  go_wp2_with (go_at_call 132;refine(y6 _ _).mono ?_;rintro e w1 ⟨rfl,rfl⟩)
  go_ret
  exact⟨by rw [hr];rfl,pbx⟩
 have t1:decide ((1000:Int)<((bs d).size:Int))=true:=by rw [hs];simp;omega
 have hr:zz ((i,c),d)=false:=by simp [zz,hl]
 clear hs hl
 go_enter func91,ntmps91
 go_wp2_with (go_at_call 132;refine(y6 _ _).mono ?_;rintro e w1 ⟨rfl,rfl⟩)
 go_ret
 exact⟨by rw [hr];rfl,pbx⟩
def jL(tk:List Nat)(lv:Value)(mb:Nat):Array Value:=((tk.map λn:Nat=>Value.int .u32 (n:Int))++ [lv,.map (some mb)]).toArray
def jP(B:Nat)(b:vF)(t:List Nat)(ow:Own)(W:World):Prop:=
 v8 b/\∃lv mb,Blk W B (jL b.tk lv mb) 358/\Row W 78 3 lv b.log.length (b.log.flatMap zh)/\zZ W mb idV (b.ws.map λp=>(p.1,vO p.2))/\
  ow B=t/\ow mb=t/\∀g,lv.ownBlock=some g->ow g=t
theorem ZO(tk:List Nat)(lv:Value)(mb:Nat)(i:Nat)(h:tk.length=16)(hi:i<16):(jL tk lv mb)[i]?=some (.int .u32 (tk[i]?.getD 0:Nat)):=by
 have:i<tk.length:=by omega
 simp [jL,List.getElem?_append_left,this]
theorem Yg(tk:List Nat)(lv:Value)(mb:Nat)(h:tk.length=16):(jL tk lv mb)[16]?=some lv:=by
 simp [jL,h]
theorem xP(tk:List Nat)(lv:Value)(mb:Nat)(h:tk.length=16):(jL tk lv mb)[17]?=some (.map (some mb)):=by
 simp [jL,h]
theorem jP.loc(B:Nat)(b:vF)(t:List Nat):yC t (jP B b t):=by
 rintro ow ow' W W'⟨aa,lv,mb,hB,hR,hM,o1,o2,o3⟩ hs hk;have kB:=hk B hB.lt (by rw [o1];exact Sub.rfl' t);have kM:=hk mb hM.lt (by rw [o2];exact Sub.rfl' t);refine⟨aa,lv,mb,hB.kept kB.2,hR.kept (λg hg=>(hk g (hR.lt hg) (by rw [o3 g hg];exact Sub.rfl' t)).2),hM.kept kM.2,kB.1.trans o1,kM.1.trans o2,λg hg=>?_⟩;exact((hk g (hR.lt hg) (by rw [o3 g hg];exact Sub.rfl' t)).1).trans (o3 g hg)
theorem zle(t:List Nat)(ow:Own)(w:World):Calls prog 172 #[] w λe w'=>
 ∃B ow',e=.returned (.pointer (some ⟨B,0,none⟩))/\zp t ow w ow' w'/\Below w.heap.size w w'/\jP B qf t ow' w':=by
 have aa:= @run_makeMap prog
 go_enter func172,ntmps172
 go_wp2;go_ret
 refine⟨w.heap.size+1,ow.ext w.heap.size (λ_=>True) t,rfl,(zp.of_below t ow (pbx)).own (λk hk=>Own.ext_old hk),pbx,⟨rfl,by simp [qf],by simp [qf]⟩,.slice none 0 0,w.heap.size,Blk.new (by simp),jc _ _ _,?_,Own.ext_new (by omega) trivial,Own.ext_new (by omega) trivial,by simp [Value.ownBlock]⟩;exact(zZ.made w idV).kept (U4 _ _ _ (by simp))
theorem zeW(B:Nat)(b:vF)(t:List Nat)(ow:Own)(i:Int)(w:World)(hb:jP B b t ow w):Calls prog 361 #[.pointer (some ⟨B,0,none⟩),.int .i64 i] w λe w'=>
 e=.returned (.int .u32 (Jv b i:Nat))/\w'=w:=by
 obtain⟨aa,lv,mb,hB, -⟩:=hb
 cases hn:vG i
 ·have hr:Jv b i=0:=by simp [Jv,hn]
  go_enter func361,ntmps361
  go_wp2_with (go_at_call 132;refine(y6 _ _).mono ?_;rintro e w1 ⟨rfl,rfl⟩)
  go_ret
  exact⟨by rw [hr];rfl,rfl⟩
 obtain⟨k,rfl,hk⟩:∃k:Nat,i=k/\k<16:=⟨i.toNat,by simp [vG] at hn;omega,by simp [vG] at hn;omega⟩
 have hr:Jv b k=((b.tk[k]?.getD 0)+1)% 4294967296:=by simp [Jv,hn]
 have hc:w.cell? ⟨B,k,none⟩=some (.int .u32 (b.tk[k]?.getD 0:Nat)):=(hB.cell k).trans (ZO b.tk lv mb k aa.sixteen hk);clear hB
 go_enter func361,ntmps361
 go_wp2_with (go_at_call 132;refine(y6 _ _).mono ?_;rintro e w1 ⟨rfl,rfl⟩)
 go_ret
 exact⟨congrArg (λz=>Ending.returned (Value.int .u32 z)) (by rw [hr];omega),rfl⟩
theorem zma(n:Nat)(b:Bool)(x:Int)(y:Nat)(w:World):(Instr.checkKey b (n+1+1) 76 (.agg #[.int .i64 x,.int .u32 y])).run prog w=.ok () w:=by
 simp [Instr.checkKey,go_sem]
theorem zaN:qe prog 76 idV where
 eq:=λk k' w=>by
  obtain⟨a,b⟩:=k;obtain⟨c,d⟩:=k';have h:(Op.equal 76 (idV (a,b)) (idV (c,d))).run prog w=(Op.equalIn 10000 76 (.agg #[.int .i64 a,.int .u32 b]) (.agg #[.int .i64 c,.int .u32 d])).run prog w:=rfl;rw [h];simp [go_sem]
  by_cases h1:a=c<;>by_cases h2:b=d<;>simp [h1,h2] <;>omega
 chk:=λb k w=>zma 9998 b k.1 k.2 w
 bits:=λk=>by simp [idV,Instr.sameBits]
 now:=⟨_,Tryz.underlying76,λk k'=>by left;rfl⟩
theorem zeX(w:World):(zeroValue 78).run prog w=.ok (.agg #[.int .i64 0,.int .u32 0,.string ⟨#[]⟩]) w:=by
 kernel_rfl
theorem zhx(B:Nat)(b:vF)(t:List Nat)(ow:Own)(i:Int)(c:Nat)(w:World)(hb:jP B b t ow w):Calls prog 365 #[.pointer (some ⟨B,0,none⟩),.agg #[.int .i64 i,.int .u32 c]] w λe w'=>
 e=.returned (.bool (zhw b (i,c)))/\Below w.heap.size w w':=by
 obtain⟨ai,lv,mb,hB, -,hM, -⟩:=hb
 cases hn:vG i
 ·have hr:zhw b (i,c)=false:=by simp [zhw,hn]
  go_enter func365,ntmps365
  go_wp2_with (go_at_call 132;refine(y6 _ _).mono ?_;rintro e w1 ⟨rfl,rfl⟩)
  go_ret
  exact⟨by rw [hr];rfl,pbx⟩
 obtain⟨k,rfl,hk⟩:∃k:Nat,i=k/\k<16:=⟨i.toNat,by simp [vG] at hn;omega,by simp [vG] at hn;omega⟩
 by_cases hc1:c<1
 ·have t1:decide ((c:Int)<1)=true:=by simp;omega
  have hr:zhw b (k,c)=false:=by simp [zhw];omega
  clear hc1
  go_enter func365,ntmps365
  go_wp2_with (go_at_call 132;refine(y6 _ _).mono ?_;rintro e w1 ⟨rfl,rfl⟩)
  go_ret
  exact⟨by rw [hr];rfl,pbx⟩
 have t1:decide ((c:Int)<1)=false:=by simp;omega
 have al:decide (1<=c)=true:=by simp;omega
 obtain⟨W1,aa⟩:∃W1,w.alloc (.cells #[.int .i64 k,.int .u32 c] 76)=W1:=⟨_,rfl⟩;have ag:zZ W1 mb idV (b.ws.map λp=>(p.1,vO p.2)):=hM.kept (by rw [← aa];exact U4 _ _ _ hM.lt)
 have ac:∀W':World,W'.heap[mb]?=W1.heap[mb]?->(Instr.lookup 138 (.map (some mb)) (.agg #[.int .i64 k,.int .u32 c]) true).run prog W'=.ok (.tuple #[((zH ((k:Int),c) b.ws).map vO).getD (.agg #[.int .i64 0,.int .u32 0,.string ⟨#[]⟩]),.bool (zH ((k:Int),c) b.ws).isSome]) W':=λW' hW'=>by
  have:=(ag.kept (w':=W') hW').lookup_ok zaN Tryz.underlying138 (zeX W') ((k:Int),c);rw [xO,Option.isSome_map] at this;exact this
 have af:=ac W1.drew rfl;have ab:∀o,_:=λo=>ac (W1.alloc o).drew (U4 _ _ _ ag.lt)
 clear ac
 have ht:W1.cell? ⟨B,k,none⟩=some (.int .u32 (b.tk[k]?.getD 0:Nat)):=by
  rw [← aa];exact((hB.alloc _).cell k).trans (ZO b.tk lv mb k ai.sixteen hk)
 have hm:W1.cell? ⟨B,17,none⟩=some (.map (some mb)):=by
  rw [← aa];exact((hB.alloc _).cell 17).trans (xP b.tk lv mb ai.sixteen)
 have ci:W1.cell? ⟨w.heap.size,0,none⟩=some (.int .i64 k):=by rw [← aa];simp
 have cc:W1.cell? ⟨w.heap.size,1,none⟩=some (.int .u32 c):=by rw [← aa];simp
 have ak:Below w.heap.size w W1:=by rw [← aa];exact(N2 _ _).alloc (N0 _) _
 have aj:B<W1.heap.size:=by rw [← aa];exact(hB.alloc _).lt
 have ad:w.heap.size<W1.heap.size:=by rw [← aa];simp
 clear hM ag hB hc1
 have hr:zhw b (k,c)=((zH ((k:Int),c) b.ws).isSome||decide (c<=b.tk[k]?.getD 0)):=by
  simp only [zhw,hn,al,Int.toNat_natCast];simp
 obtain⟨mv,ah⟩:∃mv,((zH ((k:Int),c) b.ws).map vO).getD (.agg #[.int .i64 0,.int .u32 0,.string ⟨#[]⟩])=mv:=⟨_,rfl⟩
 cases hl:(zH ((k:Int),c) b.ws).isSome
 all_goals
  rw [hl] at hr;simp only [hl,ah] at af ab
  obtain⟨m0,am⟩:∃m0:zx,mv=vO m0:=by
   rw [← ah];cases zH ((k:Int),c) b.ws with
   |none=>exact⟨((0,0),[]),rfl⟩
   |some m=>exact⟨m,rfl⟩
  rw [am] at af ab;unfold vO at af ab;clear hl ah;rw [hr]
  go_enter func365,ntmps365
  go_wp2_with (first
   |(rw [aa])
   |(go_at_call 132;refine(y6 _ _).mono ?_;rintro e w1 ⟨rfl,rfl⟩))
  apply JD (Wp:=λw'=>Below w1.heap.size w1 w')
  case h=>
   go_region
   all_goals exact JC (pbx)
  case h2=>
   rintro w5 ae;replace ht:=(ae.cell (p:=⟨B,k,none⟩) aj).trans ht;replace ci:=(ae.cell (p:=⟨w.heap.size,0,none⟩) ad).trans ci;replace cc:=(ae.cell (p:=⟨w.heap.size,1,none⟩) ad).trans cc;go_wp2
   go_quiet (fail)
   go_wp2;go_ret
   exact⟨rfl,below_drewN (ze ak ae) _⟩
end
open Go Go.RowKit
def Yh(e:ZJ):Value:=.agg #[.int .u32 e.1,.int .i64 e.2.1,.int .i64 e.2.2]
def zX(e:ZJ):List Value:=[.int .u32 e.1,.int .i64 e.2.1,.int .i64 e.2.2]
theorem zfH {P:Program}{o:Oper}{a:Act}{w:World}{K:Act->World->Prop}{Q:Exit->Act->World->Prop}(l n:Nat)(hd:∀c,o.op≠ .defer c)(h:o.wp P a w K Q):o.wpIn (Fence.wide.inRound l) n P a w K Q:=by
 unfold Oper.wpIn;refine⟨λ_ _=>trivial,?_⟩;have hs:o.semAt (Fence.wide.inRound l).round a.eval=execOp a.eval o:=Oper.semAt_some l _ _ hd;rw [hs];unfold Oper.wp at h
 revert h
 generalize(execOp a.eval o).run P w=r
 intro h
 cases r with
 |ok nx w'=>
  cases nx with
  |value v=>exact h
  |skip=>exact h
  |defer d=>exact h
  |enter f args=>exact⟨(λe=>by cases e),CallsIn.inRound l (callsIn_wide.2 h)⟩
  |row row args=>exact⟨(λe=>by cases e),λc cs _=>by obtain⟨v,aa,r,s⟩:=h c cs;exact⟨v,aa,r,stepsIn_wide.2 s⟩⟩
  |_=>exact h.elim
 |halt x w'=>cases x<;>first|exact h|exact h.elim
def Xg(ops:List Oper):Bool:=ops.all λo=>match o.op with| .defer _=>false|_=>true
theorem zbT {ops:List Oper}(h:Xg ops=true){o:Oper}(ho:o∈ops):∀c,o.op≠ .defer c:=by
 intro c hc;have:=List.all_eq_true.1 h o ho;rw [hc] at this
 cases this
theorem zdE {P:Program}{ops:List Oper}{Q:Exit->Act->World->Prop}(l n:Nat)(hd:Xg ops=true)(hQ:¬LetsOut Q){i:Nat}{K K':Act->World->Prop}(hK:∀a w,K a w->K' a w){a:Act}{w:World}
 (h:wpOp P ops.toArray Q i K a w):wpOpIn (Fence.wide.inRound l) n P ops.toArray Q i K' a w:=by
 unfold wpOp at h;unfold wpOpIn
 cases ho:ops.toArray[i]? with
 |none=>rw [ho] at h;exact hK _ _ h
 |some o=>
  rw [ho] at h
  have hm:o∈ops:=by
   rw [List.getElem?_toArray] at ho;exact List.mem_of_getElem? ho
  simp only at h⊢
  split
  ·rename_i hw
   rw [if_pos hw] at h
   rcases h with h|⟨_,h⟩
   ·exact Oper.wpIn_mono hK (zfH l n (zbT hd hm) h)
   exact absurd h hQ
  rename_i hw
  rw [if_neg hw] at h;exact⟨λ_ _=>trivial,hK _ _ h⟩
theorem ZP {P:Program}{md:Region.Mode}{ops:List Oper}{Q:Exit->Act->World->Prop}(l n:Nat)(hd:Xg ops=true)(hQ:¬LetsOut Q):∀(fuel:Nat)(listed:Array Bool)(a:Act)(w:World),
 wpAny P md ops.toArray Q fuel listed a w->wpAnyIn (Fence.wide.inRound l) n P md ops.toArray Q fuel listed a w
 |0,_,_,_,h=>h
 |fuel+1,_,_,_,h=>⟨h.1,λi hi=>zdE l n hd hQ (λa' w' h'=>ZP l n hd hQ fuel _ a' w' h') (h.2 i hi)⟩
theorem xa {P:Program}{id:Nat}{Q:Exit->Act->World->Prop}{a:Act}{w:World}{ops:List Oper}{l k:Nat}(n:Nat)(hd:Xg ops=true)(hQ:¬LetsOut Q)(hm:P.follows .mixedOrders=true)(hB:Region.lexTailB .any ops.toArray n=true)
 (h:wpStill P ops.toArray {w with drawn:=w.drawn+1} (λa'=>wpList P ops.toArray Q (ops.drop n) a' {w with drawn:=w.drawn+1}) (ops.take n) a):(Code.region id ops.toArray true).wpIn (Fence.wide.inRound l) k P Q a w:=by
 simp only [Region.lexTailB,Bool.and_eq_true,decide_eq_true_eq] at hB;obtain⟨⟨⟨⟨ab,hn⟩,hs⟩,hc⟩,ad⟩:=hB;have ag:n<ops.length:=by simpa using hn
 have aa:(ops.take n).length=n:=by simp;omega
 have ae:(ops.drop n).length=ops.toArray.size - n:=by simp
 have ac:HeadInv .any ops.toArray n (Array.replicate ops.toArray.size false):=
  ⟨by simp,λj oj _ hl=>(by rw [getD_replicate_false] at hl;cases hl),λt _ ht=>getD_in (by simpa using ht) (getD_replicate_false _ _)⟩
 have H:=wpAnyL_lex (md:=.any) (g:=ops.toArray.size - n) ab hs hc hn (ops.take n) 0 _ a (λj hj=>by
  have af:j<n:=by rw [aa] at hj;exact hj
  simp [af]) (by simpa using aa) ac (by rw [aa];exact ad) h
 refine wpIn_region_any hm (ZP l k hd hQ _ _ _ _ ?_)
 have:=wpAny_of_head (Q':=Q) (g:=ops.toArray.size - n) (λlisted a' hL=>by
  have:=wpAny_of_seq (md:=.any) (Q':=Q) (ops.drop n) n listed a' {w with drawn:=w.drawn+1} (λj=>by simp [List.getElem?_drop]) (by rw [ae];exact hL.1) hL.2
  rwa [ae] at this) _ _ _ H
 rw [aa,show n+(ops.toArray.size - n)=ops.toArray.size by omega] at this;exact this
