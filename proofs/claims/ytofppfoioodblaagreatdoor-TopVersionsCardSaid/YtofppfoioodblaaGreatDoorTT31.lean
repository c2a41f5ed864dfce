/- PARTS OF THE PROOF. -/
import Derived.WalkSmall
import Derived.Test.YtofppfoioodblaaGreatDoorTT03
import Derived.Test.YtofppfoioodblaaGreatDoorTT13
import Derived.Test.YtofppfoioodblaaGreatDoorTT16
import Derived.Test.YtofppfoioodblaaGreatDoorTT30
set_option maxRecDepth 8000
set_option maxHeartbeats 4000000
open Go.Proofs.Tryz
namespace Go.Proofs.YtofppfoioodblaaGreatDoor
section
open Go
structure yQ where
 wire:Int
 kind:Int
 src:Int
 dst:Int
 life:Nat
 seq:Nat
 ack:Nat
 hint:Nat
 data:List UInt8
deriving DecidableEq
def JO(f:yQ):Bool:=(decide (f.wire=1)||decide (f.wire=2))&& decide (0<=f.kind)&& decide (f.kind<=31)&& decide (f.data.length<=4096)&& decide (0<=f.src)&& decide (f.src<16)&& decide (0<=f.dst)&& decide (f.dst<16)&&(decide (f.wire=2)||decide (f.hint=0))
def yU(i:Int):UInt8:=UInt8.ofNat (i % 256).toNat
def qr(f:yQ):List UInt8×Int:=
 if JO f=false then([],20)
 else(qB ([72,yU f.wire,yU f.kind,yU (f.src*16+f.dst)] ++le4 f.life++le4 f.seq++le4 f.ack++(if f.wire=2 then le4 f.hint else [])++le4 f.data.length++f.data),0)
def zW(b:List UInt8)(i:Nat):Nat:=yn ((b.drop i).take 4)
def vq(b:List UInt8)(i:Nat):Nat:=((b.drop i).head?.getD 0).toNat
def Z7:yQ:=⟨0,0,0,0,0,0,0,0,[]⟩
def zkR(b:List UInt8):yQ×Int:=
 if b.length<2∨vq b 0≠72 then(Z7,20)
 else if vq b 1≠1/\vq b 1≠2 then(Z7,22)
 else if vq b 1=1 then
  (if b.length<20 then(Z7,20)
   else if zW b 16=b.length - 20/\JO ⟨1,vq b 2,vq b 3 / 16,vq b 3 % 16,zW b 4,zW b 8,zW b 12,0,b.drop 20⟩=true then(⟨1,vq b 2,vq b 3 / 16,vq b 3 % 16,zW b 4,zW b 8,zW b 12,0,b.drop 20⟩,0)
   else(Z7,20))
 else
  (if b.length<24 then(Z7,20)
   else if zW b 20=b.length - 24/\JO ⟨2,vq b 2,vq b 3 / 16,vq b 3 % 16,zW b 4,zW b 8,zW b 12,zW b 16,b.drop 24⟩=true then(⟨2,vq b 2,vq b 3 / 16,vq b 3 % 16,zW b 4,zW b 8,zW b 12,zW b 16,b.drop 24⟩,0)
   else(Z7,20))
def zfx(s:List UInt8):yQ×Int:=match xA s with|none=>(Z7,21)|some b=>zkR b
abbrev zfy:=Nat×Int×List UInt8
abbrev JP:=Int×Int×zy
structure j8 where
 inst:Int
 ballot:Nat
 value:List UInt8
 promises:List jl
 promised:List Bool
 voted:List Bool
 votes:Nat
 asked:Bool
 told:Bool
structure jW where
 greatest:Nat
 accepted:Nat
 delivered:Nat
 stale:Bool
 lent:Bool
structure zf where
 nodes:List zp
 seats:List jW
 leads:List (Int×j8)
 last:Nat
 notes:List zfy
 hurt:List (Nat×Unit)
 trace:List JP
def yV:jW:=⟨0,0,0,false,false⟩
def qW(n:Nat)(v cap:Int)(s:StD):zf:={nodes:=(List.range n).map λ(i:Nat)=>zgd i v cap [] s,seats:=List.replicate n yV,leads:=[],last:=0,notes:=[],hurt:=[],trace:=[] }
def zr(w:zf)(i:Nat):zp:=w.nodes[i]?.getD (zgd 0 0 0 [] (0,0,[]))
def jg(w:zf)(i:Nat):jW:=w.seats[i]?.getD yV
def setNode(w:zf)(i:Nat)(n:zp):zf:={w with nodes:=w.nodes.set i n}
def setSeat(w:zf)(i:Nat)(s:jW):zf:={w with seats:=w.seats.set i s}
def xm(w:zf)(i:Nat):zf:=setSeat w i {jg w i with stale:=true}
def ji(kind src dst:Int)(inst:Int)(ballot:Nat)(more:List UInt8):yQ:=⟨1,kind,src,dst,0,0,0,0,le4 (inst % 4294967296).toNat++le8 ballot++more⟩
def yq(w:zf)(dst:Int)(s:List UInt8):zf×Nat×Int:=
 if 1000<=w.notes.length then(w,0,30)else({w with last:=(w.last+1)% 4294967296,notes:=w.notes++ [((w.last+1)% 4294967296,dst,s)] },(w.last+1)% 4294967296,0)
def yY(w:zf)(f:yQ):zf:=if(qr f).2=0 then(yq w f.dst (qr f).1).1 else w
def j0(w:zf)(kind src inst:Int)(ballot:Nat)(more:List UInt8):zf:=(List.range w.nodes.length).foldl (λw (i:Nat)=>yY w (ji kind src i inst ballot more)) w
def ju(b:Nat)(node:Nat):Nat×Int:=if 16<=node∨1152921504606846976<b then(0,2)else if b / 16*16+node<=b then(b / 16*16+node+16,0)else(b / 16*16+node,0)
def yk(w:zf)(i:Nat):zf×Int:=
 if(zr w i).down then(w,170)
 else if(ju (jg w i).greatest i).2≠0 then(w,(ju (jg w i).greatest i).2)
 else
  let b:=(ju (jg w i).greatest i).1
  let l:j8:={inst:=yy (zr w i),ballot:=b,value:=(jP (zr w i)).1,promises:=[],promised:=List.replicate 16 false,voted:=List.replicate 16 false,votes:=0,asked:=false,told:=false}
  (j0 {setSeat w i {jg w i with greatest:=b} with leads:=put (i:Int) l w.leads} 3 i (yy (zr w i)) b [],0)
def qI(n:Nat)(ps:List jl)(own:List UInt8):List UInt8×Int:=
 if n<ps.length∨2*ps.length<=n then([],81)
 else if ps.all j7=false∨4000<own.length then([],2)
 else((ps.foldl (λ(b:jl) v=>if b.2.1<v.2.1 then v else b) (0,0,own)).2.2,0)
def countPromise(w:zf)(i:Nat)(src:Nat)(inst:Int)(ballot:Nat)(more:List UInt8):zf:=
 match zD (i:Int) w.leads with
 |none=>w
 |some l=>
  if l.inst≠inst∨l.ballot≠ballot∨l.asked∨l.promised[src]?.getD false∨more.length<8 then w
  else
   let l1:={l with promised:=l.promised.set src true,promises:=l.promises++ [(ballot,zW more 0+4294967296*zW more 4,more.drop 8)] }
   let w1:={w with leads:=put (i:Int) l1 w.leads}
   if 2*l1.promises.length<=w.nodes.length then w1
   else if(qI w.nodes.length l1.promises l1.value).2≠0 then w1
   else j0 {w with leads:=put (i:Int) {l1 with asked:=true,value:=(qI w.nodes.length l1.promises l1.value).1} w.leads} 5 i inst ballot (qI w.nodes.length l1.promises l1.value).1
def countVote(w:zf)(i:Nat)(src:Nat)(inst:Int)(ballot:Nat):zf:=
 match zD (i:Int) w.leads with
 |none=>w
 |some l=>
  if l.inst≠inst∨l.ballot≠ballot∨l.told∨l.voted[src]?.getD false then w
  else
   let l1:={l with voted:=l.voted.set src true,votes:=l.votes+1}
   if 2*l1.votes<=w.nodes.length then {w with leads:=put (i:Int) l1 w.leads}
   else j0 {w with leads:=put (i:Int) {l1 with told:=true} w.leads} 7 i inst ballot l1.value
def yO(w:zf)(i:Nat)(f:yQ)(inst:Int)(ballot:Nat)(more:List UInt8):zf:=
 match zD inst (zr w i).pax.known with
 |some x=>yY w (ji 7 i f.src inst ballot x)
 |none=>
  if f.kind=5 then
   let r:=yE (zr w i) inst ballot more
   if r.2=0 then yY (setNode w i r.1) (ji 6 i f.src inst ballot [])else setNode w i r.1
  else
   let r:=zA (zr w i) inst ballot
   if r.2.2=0 then yY (setNode w i r.1) (ji 4 i f.src inst ballot (le8 r.2.1.2.1++r.2.1.2.2))else setNode w i r.1
def yA(w:zf)(i:Nat)(f:yQ):zf:=
 if f.data.length<12 then w
 else
  let inst:Int:=zW f.data 0
  let ballot:=zW f.data 4+4294967296*zW f.data 8
  let more:=f.data.drop 12
  if f.kind=3∨f.kind=5 then yO w i f inst ballot more
  else if f.kind=4 then countPromise w i f.src.toNat inst ballot more
  else if f.kind=6 then countVote w i f.src.toNat inst ballot
  else if f.kind=7 then setNode (xm w i) i (ja (zr w i) inst more).1
  else w
def xw(w:zf)(place:Int):zf×Int:=
 if place<0 then(w,2)else match w.notes[place.toNat]? with
 |none=>(w,2)
 |some (id,dst,s)=>
  let w1:={w with notes:=w.notes.eraseIdx place.toNat,hurt:=del id w.hurt}
  if(zfx s).2=0/\(zr w1 dst.toNat).down=false then(yA w1 dst.toNat (zfx s).1,0)else(w1,0)
def zke(w:zf)(place:Int):zf×Int:=
 if place<0 then(w,2)else match w.notes[place.toNat]? with
 |none=>(w,2)
 |some (id,_,_)=>({w with notes:=w.notes.eraseIdx place.toNat,hurt:=del id w.hurt},0)
def zkf(w:zf)(place:Int):zf×Int:=
 if place<0 then(w,2)else match w.notes[place.toNat]? with
 |none=>(w,2)
 |some (id,dst,s)=>
  let r:=yq w dst s
  if r.2.2≠0 then(w,r.2.2)else if(zD id w.hurt).isSome then({r.1 with hurt:=put r.2.1 () r.1.hurt},0)else(r.1,0)
def zkg(w:zf)(place bit:Int)(mask:Nat):zf×Int:=
 if place<0 then(w,2)else match w.notes[place.toNat]? with
 |none=>(w,2)
 |some (id,dst,s)=>
  if(zD id w.hurt).isSome then(w,180)
  else if(zc9 s bit mask).2≠0 then(w,(zc9 s bit mask).2)
  else({w with notes:=w.notes.set place.toNat (id,dst,(zc9 s bit mask).1),hurt:=put id () w.hurt},0)
def tellOne(w:zf)(deliver:Bool)(i:Nat):zf:=
 let s:=jg w i
 if s.stale||s.lent then
  (if deliver then {setSeat w i {s with delivered:=max s.delivered (zr w i).loc.log.length,stale:=false} with trace:=w.trace++((zr w i).loc.log.drop s.delivered).map λm=>(3,(i:Int),m)}
   else {setSeat w i {s with accepted:=max s.accepted (zr w i).acc.length} with trace:=w.trace++((zr w i).acc.drop s.accepted).map λm=>(1,(i:Int),m)})
 else w
def vZ(w:zf):zf:=(List.range w.nodes.length).foldl (λw i=>tellOne w true i) ((List.range w.nodes.length).foldl (λw i=>tellOne w false i) w)
structure OpD where
 kind:Int
 node:Int
 a:Int
 b:Int
 mask:Nat
 s:List UInt8
def yZ(w:zf)(s:StD)(o:OpD):zf×Int:=
 let i:=o.node.toNat
 if o.kind=1 then(setNode (xm w i) i (zF (zr w i) o.s).1,(zF (zr w i) o.s).2.2)
 else if o.kind=2 then yk w i
 else if o.kind=3 then xw w o.a
 else if o.kind=4 then zke w o.a
 else if o.kind=5 then zkf w o.a
 else if o.kind=6 then zkg w o.a o.b o.mask
 else if o.kind=7 then(setNode {w with leads:=del o.node w.leads} i (VF (zr w i)).1,(VF (zr w i)).2)
 else if o.kind=8 then(setNode w i (zjY (zr w i) o.a).1,(zjY (zr w i) o.a).2)
 else if o.kind=9 then(setNode {xm w i with leads:=del o.node w.leads} i (yP (zr w i) s),0)
 else if o.kind=10 then(setNode w i (ZY (zr w i) o.a).1,(ZY (zr w i) o.a).2)
 else(w,180)
def doW(s:StD)(w:zf)(o:OpD):zf×Int:=
 if o.kind<1∨10<o.kind then(w,180)
 else if¬(3<=o.kind/\o.kind<=6)/\(o.node<0∨(w.nodes.length:Int)<=o.node)then(w,180)
 else
  let r:=yZ w s o
  if o.kind=1/\r.2≠0 then({vZ r.1 with trace:=(vZ r.1).trace++ [(2,o.node,((0,0),[]))] },r.2)else(vZ r.1,r.2)
def zec(w:zf)(i:Nat):Bool:=(jP (zr w i)).2||w.nodes.any λn=>decide (yy (zr w i)<yy n)
def qs(w:zf):Bool:=w.notes.isEmpty &&(List.range w.nodes.length).all λi=> !(zr w i).down && !zec w i
end
section
open Go Go.RowKit
def Qq(w:World)(e:TypeId)(sz:Nat)(v:Value)(n:Nat)(xs:List Value):Prop:=
 xs.length=n*sz/\((v=.slice none 0 0/\n=0)∨
  ∃g cap cur,v=.slice (some ⟨g,0,none⟩) n cap/\w.heap[g]?=some (.cells cur e (0,0))/\n<=cap/\cap<=maxLen/\cap*sz<=cur.size/\cur.toList.take (n*sz)=xs)
theorem Row.wideV {w:World}{e:TypeId}{sz:Nat}{v:Value}{n:Nat}{xs:List Value}(h:Row w e sz v n xs):Qq w e sz v n xs:=by
 refine⟨h.1,?_⟩
 rcases h.2 with h|⟨g,cap,cur,rfl, -,hg,hc,hm,hs,ht⟩
 ·exact .inl h
 ·exact .inr ⟨g,cap,cur,rfl,hg,hc,hm,by omega,by simpa using ht⟩
section
variable {w w':World}{e:TypeId}{sz:Nat}{v:Value}{n:Nat}{xs:List Value}
theorem Qq.lt(h:Qq w e sz v n xs){g:Nat}(hg:v.ownBlock=some g):g<w.heap.size:=by
 rcases h.2 with⟨rfl,_⟩|⟨g',cap,cur,rfl,hgg,_⟩
 ·cases hg
 ·cases hg;exact(N5.1 hgg).1
theorem Qq.kept(h:Qq w e sz v n xs)(hb:∀g,v.ownBlock=some g->w'.heap[g]?=w.heap[g]?):Qq w' e sz v n xs:=by
 refine⟨h.1,?_⟩
 rcases h.2 with h2|⟨g,cap,cur,rfl,hg,r⟩
 ·exact .inl h2
 ·exact .inr ⟨g,cap,cur,rfl,(hb g rfl).trans hg,r⟩
theorem Qq.type(h:Qq w e sz v n xs){g:Nat}(hg:v.ownBlock=some g):∃cur,w.heap[g]?=some (.cells cur e (0,0)):=by
 rcases h.2 with⟨rfl,_⟩|⟨g',cap,cur,rfl,hgg,_⟩
 ·cases hg
 ·cases hg;exact⟨cur,hgg⟩
theorem Qq.ne_blk(h:Qq w e sz v n xs){B:Nat}{cs:Array Value}{T:TypeId}(hB:Blk w B cs T)(hT:e≠T){g:Nat}(hg:v.ownBlock=some g):g≠B:=by
 rintro rfl;obtain⟨cur,hc⟩:=h.type hg;have:=hc.symm.trans hB;simp at this
 exact hT this.2
theorem Qq.shape(h:Qq w e sz v n xs):∃a c,v=.slice a n c:=by
 rcases h.2 with⟨rfl,rfl⟩|⟨g,cap,cur,rfl,_⟩
 ·exact⟨_,_,rfl⟩
 ·exact⟨_,_,rfl⟩
theorem Qq.src(h:Qq w e sz v n xs):Src w v sz n xs:=by
 refine⟨h.1,?_⟩
 rcases h.2 with h0|⟨g,cap,cur,rfl,hg,hc,_,hs,ht⟩
 ·exact .inl h0
 ·refine .inr ⟨g,0,cap,rfl,hc,λj u hu=>?_⟩
  have hj:=(N6.1 hu).1;rw [h.1] at hj;have hB:Blk w g cur e:=hg;rw [Nat.zero_add,hB.cell,← hu,← ht,List.getElem?_take,if_pos hj];simp
end
theorem Qq.clip {w:World}{e:TypeId}{sz:Nat}{a:Option Addr}{n c:Nat}{xs:List Value}(h:Qq w e sz (.slice a n c) n xs)(k:Nat)(hk:k<=n)(ha:a≠none):Qq w e sz (.slice a k k) k (xs.take (k*sz)):=by
 have hm:=Nat.mul_le_mul_right sz hk
 rcases h.2 with⟨h0,h1⟩|⟨g,cap,cur,hv,hg,hc,hmx,hs,ht⟩
 ·simp at h0;exact absurd h0.1 ha
 ·cases hv
  have hm2:=Nat.mul_le_mul_right sz hc;refine⟨by rw [N7,h.1];omega,.inr ⟨g,k,cur,rfl,hg,N0 _,by omega,by omega,?_⟩⟩;rw [← ht,List.take_take,Nat.min_eq_left hm]
theorem Xc {P:Program}{t e:TypeId}{size bytes:Nat}{z:Value}(T:Yc P t e size bytes z){w:World}{v src:Value}{n m:Nat}{xs news:List Value}
 (hv:Qq w e size v n xs) (hs:Src w src size m news) (h1:∀u∈news,u.oneCell'=true) (hb:n+m<=1073741824) (ty:TypeId):
 ∃v' w',(Builtin.append_ #[t,t] ty #[v,src]).run P w=.ok v' w'/\Qq w' e size v' (n+m) (xs++news)/\w.grownBy w' v.ownBlock/\(v'.ownBlock=v.ownBlock∨v'.ownBlock=some w.heap.size):=by
 obtain⟨i,hi,hz0,hz1,hz2⟩:=info_parts T.info
 have hbytes:(n+m)*bytes<=140737488355328:=by
  have:=Nat.mul_le_mul hb T.small;omega
 rcases hv.2 with⟨rfl,rfl⟩|⟨g,cap,cur,rfl,hg,hnc,hcm,hcs,htake⟩
 ·have hx:xs=[]:=N9 (by simpa using hv.1)
  subst hx;obtain⟨v',w',h2,h3,h4,h5⟩:=zT T (z7 w e size) hs h1 hb ty;exact⟨v',w',h2,h3.wideV,h4,h5⟩
 ·rcases hs.2 with⟨rfl,rfl⟩|⟨b,off,sc,rfl,_,hr⟩
  ·have hn:news=[]:=N9 (by simpa using hs.1)
   subst hn;refine⟨.slice (some ⟨g,0,none⟩) n cap,w,?_,by simpa using hv,⟨rfl,rfl,rfl,N0 _,λ_ _ _=>rfl⟩,.inl rfl⟩;simp [Builtin.append_,run_underlying T.under,sizeOf,typeInfo,hi,Builtin.lenOf,Builtin.firstCells,loadCells,hnc,storeCells]
  ·have hadd:∀j,(⟨b,off,none⟩:Addr).add j=⟨b,off+j,none⟩:=λj=>by unfold Addr.add;split<;>simp_all
   have hl:news.length=m*size:=hs.1;have hlen:(xs++news).length=(n+m)*size:=by rw [N1,hv.1,hl,Nat.add_mul]
   have hcells:∀j u,news[j]?=some u->w.cell? ((⟨b,off,none⟩:Addr).add j)=some u:=λj u hu=>by rw [hadd];exact hr j u hu
   by_cases hroom:n+m<=cap
   ·have hmm:=Nat.mul_le_mul_right size hroom
    rw [Nat.add_mul] at hmm;have hfit:n*i.size+news.length<=cur.size:=by rw [hz1,hl];omega
    have hrun:=run_append_room (P:=P) w t ty e i T.under hi g n cap cur hg ⟨b,off,none⟩ m sc news (by rw [hz1];exact hl) hcells h1 hroom hfit;refine⟨_,_,hrun,⟨hlen,.inr ⟨g,cap,_,rfl,setRow_heap w g cur _ e _ hg,hroom,hcm,?_,?_⟩⟩,⟨rfl,rfl,rfl,by simp,λk _ hk=>setRow_other w g k _ (λe=>hk (by simp [Value.ownBlock,e]))⟩,.inl rfl⟩
    ·simp only [List.size_toArray,N1,N7,U3,Array.length_toList,hz1]
     omega
    ·rw [hz1,htake,← hlen]
     exact List.take_left
   ·have holds:∀j u,xs[j]?=some u->w.cell? ((⟨g,0,none⟩:Addr).add j)=some u:=λj u hu=>by
     have hj:=(N6.1 hu).1;rw [hv.1] at hj;have hB:Blk w g cur e:=hg;have ha:(⟨g,0,none⟩:Addr).add j=⟨g,0+j,none⟩:=by unfold Addr.add;split<;>simp_all
     rw [ha,Nat.zero_add,hB.cell,← hu,← htake,List.getElem?_take,if_pos hj];simp
    have hrun:=run_append_grow (P:=P) w t ty e i z T.under hi hz0 ⟨g,0,none⟩ n cap xs (by rw [hz1];exact hv.1) holds ⟨b,off,none⟩ m sc news (by rw [hz1];exact hl) hcells (by omega) (by omega) (growslice_fits (by omega) (by rw [hz2];omega));have hge:=grownCap_ge w (n+m) cap e;have hcm2:grownCap w (n+m) cap e<=maxLen:=grownCap_le_maxLen w (n+m) cap e (by unfold maxLen;omega);refine⟨_,_,hrun,⟨hlen,.inr ⟨w.heap.size,_,_,rfl,heap_alloc_new w.drew _,hge,hcm2,?_,?_⟩⟩,⟨rfl,rfl,rfl,by simp,λk hk _=>((N2 w.drew.heap.size w.drew).alloc (N0 _) _).block k hk⟩,.inr rfl⟩
    ·have hmg:=Nat.mul_le_mul_right size hge
     rw [Nat.add_mul] at hmg;simp only [Array.size_append,List.size_toArray,size_zeroCells,T.cells,hl,hv.1];rw [Nat.sub_mul,Nat.add_mul];omega
    ·simp only [Array.toList_append,List.append_assoc]
     rw [← List.append_assoc,← hlen];exact List.take_left
end
section
open Go Go.RowKit
theorem zhq(w:World)(e:TypeId)(size:Nat):Row (w.alloc (.cells #[] e)) e size (.slice (some ⟨w.heap.size,0,none⟩) 0 0) 0 []:=
 ⟨by simp,.inr ⟨w.heap.size,0,#[],rfl,Nat.zero_le _,World.alloc_heap_new w _,N0 _,Nat.zero_le _,by simp,by simp⟩⟩
def jb(x:(Nat×Int×List UInt8)):List Value:=[.int .u32 x.1,.int .i64 x.2.1,.string (bs x.2.2)]
theorem xC(l:List (Nat×Int×List UInt8)):(l.flatMap jb).length=l.length*3:=by
 induction l with
 |nil=>rfl
 |cons m l ih=>simp [List.flatMap_cons,jb,ih];omega
def jL(B:Nat)(last:Nat)(notes:List (Nat×Int×List UInt8))(t:List Nat)(ow:Own)(W:World):Prop:=
 ∃v,Blk W B #[.int .u32 last,v] 122/\Qq W 178 3 v notes.length (notes.flatMap jb)/\ow B=t/\∀g,v.ownBlock=some g->ow g=t
theorem jL.loc(B last:Nat)(notes:List (Nat×Int×List UInt8))(t:List Nat):yK t (jL B last notes t):=by
 rintro ow ow' W W'⟨lv,hB,hR,o1,o2⟩ hs hk;have kB:=hk B hB.lt (by rw [o1];exact Sub.rfl' t);have kR:∀g,lv.ownBlock=some g->ow' g=ow g/\W'.heap[g]?=W.heap[g]?:=λg hg=>hk g (hR.lt hg) (by rw [o2 g hg];exact Sub.rfl' t)
 exact⟨lv,hB.kept kB.2,hR.kept (λg hg=>(kR g hg).2),kB.1.trans o1,λg hg=>(kR g hg).1.trans (o2 g hg)⟩
def Zy(B last:Nat)(notes:List (Nat×Int×List UInt8))(t:List Nat)(ow:Own)(w:World)(v:Value)(e:Ending)(w':World):Prop:=
 e=.returned v/\∃ow',zq t ow w ow' w'/\jL B last notes t ow' w'
end
open Go Go.RowKit Go.Shelf Go.Extern.Stop Go.Stop Go.Extern
attribute [local go_sem] Oper.semAt_some zv zm
theorem zkh:Yc prog 120 178 3 32 (.agg #[.int .u32 0,.int .i64 0,.string ⟨#[]⟩]):=⟨Tryz.underlying120,by kernel_rfl,rfl,by decide,by decide⟩
theorem qJ(l:List (Nat×Int×List UInt8)):∀u∈l.flatMap jb,u.oneCell'=true:=by
 intro u hu;obtain⟨m,_,hm⟩:=List.mem_flatMap.1 hu;simp only [jb,List.mem_cons,List.mem_nil_iff,or_false] at hm
 rcases hm with rfl|rfl|rfl<;>rfl
theorem zhr(w:World):Calls prog 23 #[] w λe w'=>e=.returned (.pointer (some ⟨w.heap.size,0,none⟩))/\w'=w.alloc (.cells #[.int .u32 0,.slice none 0 0] 122):=by
 go_enter func23,ntmps23
 go_wp2;go_ret
 exact⟨rfl,rfl⟩
theorem zi7(fb last n c:Nat)(a:Option Addr)(p:Int)(w:World)(hB:Blk w fb #[.int .u32 last,.slice a n c] 122):Calls prog 146 #[.pointer (some ⟨fb,0,none⟩),.int .i64 p] w λe w'=>
 e=.returned (.bool (decide (0<=p)&& decide (p<(n:Int))))/\w'=w:=by
 have e0:=hB.cell
 cases h0:decide (0<=p)
 ·go_enter func146,ntmps146
  go_wp2;go_ret
  exact⟨rfl,rfl⟩
 ·cases h1:decide (p<(n:Int))
  ·go_enter func146,ntmps146
   go_wp2;go_ret
   exact⟨rfl,rfl⟩
  ·go_enter func146,ntmps146
   go_wp2;go_ret
   exact⟨rfl,rfl⟩
theorem zfz(fb last:Nat)(v:Value)(hl:last<4294967295)(w:World)(hB:Blk w fb #[.int .u32 last,v] 122):Calls prog 206 #[.pointer (some ⟨fb,0,none⟩)] w λe w'=>
 e=.returned (.int .u32 (last+1:Nat))/\w'=w.setCell ⟨fb,0,none⟩ (.int .u32 (last+1:Nat)):=by
 have e0:=hB.cell;have f0:=hB.frozen;have l0:=hB.lt;have hw:IntKind.u32.wrap ((last:Int)+1)=((last+1:Nat):Int):=by rw [IntKind.wrap_u32];omega
 have r0:=(hB.set (o:=0) (.int .u32 (last+1:Nat))).cell
 go_enter func206,ntmps206
 go_wp2;go_ret
 exact⟨rfl,rfl⟩
theorem zhs(B last:Nat)(notes:List (Nat×Int×List UInt8))(t:List Nat)(ow:Own)(src:Value)(l:List (Nat×Int×List UInt8))(w:World)(h:jL B last notes t ow w)(hm:Src w src 3 l.length (l.flatMap jb))(hl:notes.length+l.length<=1073741824):
 Calls prog 207 #[.pointer (some ⟨B,0,none⟩),src] w (Zy B last (notes++l) t ow w (.tuple #[])):=by
 obtain⟨lv,hB,hR,o1,o2⟩:=h;have e0:=hB.cell;have l0:=hB.lt
 obtain⟨ma,mm,mc,rfl⟩:∃a n c,src=.slice a n c:=by
  rcases hm.2 with⟨h, -⟩|⟨b,off,cap,h, -⟩<;>exact⟨_,_,_,h⟩
 obtain⟨ha,hc,rfl⟩:=hR.shape;obtain⟨lv',W3,hrun,hrow,hgr,hown⟩:=Xc zkh hR hm (qJ l) hl 120;have hneB:(Value.slice ha notes.length hc).ownBlock≠some B:=λe=>(hR.ne_blk hB (by decide) e) rfl
 have k3:=hB.kept (hgr.block B hB.lt (λe=>hneB e.symm));have f3:=k3.frozen;have l3:=k3.lt;have c3:=k3.cell;obtain⟨sa,sc,rfl⟩:=hrow.shape;clear hm;replace hB:=hid hB;replace hR:=hid hR;replace hrow:=hid hrow;replace k3:=hid k3;replace o2:=hid o2;replace hown:=hid hown;replace hneB:=hid hneB
 go_enter func207,ntmps207
 go_wp2_with (at_builtin
              refine zw rfl _ _ _ rfl rfl rfl hrun ?_)
 go_end0
 have hg5:∀g,(Value.slice sa (notes.length+l.length) sc).ownBlock=some g->((Value.slice ha notes.length hc).ownBlock=some g∨g=w.heap.size):=λg hg=>by
  have:=hown.out;rw [hg] at this
  rcases this with h|h
  ·exact .inl h.symm
  ·right;simpa using h
 refine⟨rfl,ow.ext w.heap.size (λk=>(Value.slice sa (notes.length+l.length) sc).ownBlock=some k) t,⟨?_,λk hk=>Own.ext_old hk⟩,.slice sa (notes.length+l.length) sc,k3.out.set (o:=1) _,?_,?_,?_⟩
 ·exact(Mod.grown (X:=λk=>Sub t (ow k)) hgr (λk h=>by rw [o2.out k h];exact Sub.rfl' t)).thenSet (p:=⟨B,1,none⟩) (by simp only [o1];exact Sub.rfl' t) _
 ·simp only [N1,U5]
  refine hrow.out.kept (λg hg=>N4 _ _ _ _ (λe=>?_));have e':g=B:=e;subst e'
  rcases hg5 g hg with h|h
  ·exact hneB.out h
  ·omega
 ·rw [Own.ext_old l0,o1]
 ·intro g hg
  rcases hg5 g hg with h|h
  ·rw [Own.ext_old (hR.out.lt h),o2.out g h]
  ·rw [Own.ext_new (by omega) hg]
theorem zbz {B last last':Nat}{notes:List (Nat×Int×List UInt8)}{t:List Nat}{ow:Own}{W:World}(h:jL B last notes t ow W):zq t ow W ow (W.setCell ⟨B,0,none⟩ (.int .u32 last'))/\jL B last' notes t ow (W.setCell ⟨B,0,none⟩ (.int .u32 last')):=by
 obtain⟨lv,hB,hR,o1,o2⟩:=h;refine⟨zq.setCell W ⟨B,0,none⟩ _ (by rw [o1];exact Sub.rfl' t),lv,hB.set (o:=0) _,hR.kept (λg hg=>N4 _ _ _ _ (λe=>?_)),o1,o2⟩;exact hR.ne_blk hB (by decide) hg e
def ys(last:Nat)(notes:List (Nat×Int×List UInt8))(d:Int)(s:List UInt8):Nat×List (Nat×Int×List UInt8)×Nat×Int:=if 1000<=notes.length then(last,notes,0,30)else(last+1,notes++ [(last+1,d,s)],last+1,0)
theorem zbA(B last:Nat)(notes:List (Nat×Int×List UInt8))(hlast:last<4294967295)(t:List Nat)(ow:Own)(d:Int)(s:List UInt8)(w:World)(h:jL B last notes t ow w)(hn:notes.length<=1000):
 Calls prog 155 #[.pointer (some ⟨B,0,none⟩),.int .i64 d,.string (bs s)] w (Zy B (ys last notes d s).1 (ys last notes d s).2.1 t ow w (.tuple #[.int .u32 ((ys last notes d s).2.2.1:Nat),.int .i64 (ys last notes d s).2.2.2])):=by
 have h0:=h;have hcnt:=zbz (last':=last+1) h;obtain⟨lv,hB,hR,o1,o2⟩:=h;have e0:=hB.cell;obtain⟨ha,hc,rfl⟩:=hR.shape;have hnx:=zfz B last _ hlast w hB;unfold ys
 by_cases hf:1000<=notes.length
 ·have t1:decide ((1000:Int)<=(notes.length:Int))=true:=by simp;omega
  rw [if_pos hf];replace h0:=hid h0;clear hcnt hB hR
  go_enter func155,ntmps155
  go_wp2;go_ret2
  exact⟨rfl,ow,zq.refl _ _ _,h0.out⟩
 ·have t1:decide ((1000:Int)<=(notes.length:Int))=false:=by simp;omega
  rw [if_neg hf];obtain⟨W1,hW1⟩:∃W1,W1=w.setCell ⟨B,0,none⟩ (.int .u32 (last+1:Nat)):=⟨_,rfl⟩;rw [← hW1] at hcnt hnx;have hlay:=λW hb hs=>zhs B (last+1) notes t ow (.slice (some ⟨W1.heap.size,0,none⟩) 1 1) [(last+1,d,s)] W ((jL.loc B (last+1) notes t).below hcnt.2 hb) hs (by simp;omega)
  replace hlay:=hid hlay;replace hcnt:=hid hcnt;replace hnx:=hid hnx;clear h0 hB hR
  go_enter func155,ntmps155
  go_wp2_with fail
  refine hnx.out.mono ?_;rintro e w1⟨rfl,rfl⟩;clear hW1 e0;go_wp2_with fail
  refine(hlay.out (w1.alloc (.cells #[.int .u32 (last+1:Nat),.int .i64 d,.string (bs s)] 178)) (pbx) (jM (n:=1) (size:=3) (cap:=1) (Blk.new rfl) rfl (N0 1))).mono ?_;rintro e w2⟨rfl,ow2,hs2,hF⟩;go_wp2;go_ret2
  exact⟨rfl,ow2,(hcnt.out.1.trans (zq.of_below t ow (pbx))).trans hs2,hF⟩
theorem zfA(B last:Nat)(notes:List (Nat×Int×List UInt8))(hlast:last<4294967295)(t:List Nat)(ow:Own)(d:Int)(hd0:0<=d)(hd:d<16)(s:List UInt8)(w:World)(h:jL B last notes t ow w)(hn:notes.length<=1000):
 Calls prog 191 #[.pointer (some ⟨B,0,none⟩),.int .i64 d,.string (bs s)] w (Zy B (ys last notes d s).1 (ys last notes d s).2.1 t ow w (.tuple #[.int .u32 ((ys last notes d s).2.2.1:Nat),.int .i64 (ys last notes d s).2.2.2])):=by
 have hl:=zbA B last notes hlast t ow d s w h hn;have t1:decide (d<0)=false:=by simp;omega
 have t2:decide ((16:Int)<=d)=false:=by simp;omega
 generalize ys last notes d s=q at*
 obtain⟨q1,q2,q3,q4⟩:=q;simp only at hl⊢;replace hl:=hid hl;clear h
 go_enter func191,ntmps191
 go_wp2_with fail
 refine hl.out.mono ?_;rintro e w1⟨rfl,ow1,hs,hF⟩;go_wp2;go_ret2
 exact⟨rfl,ow1,hs,hF⟩
