/- PARTS OF THE PROOF. -/
import Derived.Test.YtofppfoioodblaaGreatDoorTC09
set_option maxRecDepth 8000
set_option maxHeartbeats 4000000
namespace Go.Proofs.YtofppfoioodblaaGreatDoor
section
open Go
structure y8 where
 wire:Int
 kind:Int
 src:Int
 dst:Int
 life:Nat
 seq:Nat
 ack:Nat
 hint:Nat
 data:List UInt8
deriving DecidableEq
def Yn(f:y8):Bool:=(decide (f.wire=1)||decide (f.wire=2))&& decide (0<=f.kind)&& decide (f.kind<=31)&& decide (f.data.length<=4096)&& decide (0<=f.src)&& decide (f.src<16)&& decide (0<=f.dst)&& decide (f.dst<16)&&(decide (f.wire=2)||decide (f.hint=0))
def vi(i:Int):UInt8:=UInt8.ofNat (i % 256).toNat
def qO(f:y8):List UInt8×Int:=
 if Yn f=false then([],20)
 else(Zb ([72,vi f.wire,vi f.kind,vi (f.src*16+f.dst)] ++le4 f.life++le4 f.seq++le4 f.ack++(if f.wire=2 then le4 f.hint else [])++le4 f.data.length++f.data),0)
def z8(b:List UInt8)(i:Nat):Nat:=yy ((b.drop i).take 4)
def vI(b:List UInt8)(i:Nat):Nat:=((b.drop i).head?.getD 0).toNat
def JK:y8:=⟨0,0,0,0,0,0,0,0,[]⟩
def zmd(b:List UInt8):y8×Int:=
 if b.length<2∨vI b 0≠72 then(JK,20)
 else if vI b 1≠1/\vI b 1≠2 then(JK,22)
 else if vI b 1=1 then
  (if b.length<20 then(JK,20)
   else if z8 b 16=b.length - 20/\Yn ⟨1,vI b 2,vI b 3 / 16,vI b 3 % 16,z8 b 4,z8 b 8,z8 b 12,0,b.drop 20⟩=true then(⟨1,vI b 2,vI b 3 / 16,vI b 3 % 16,z8 b 4,z8 b 8,z8 b 12,0,b.drop 20⟩,0)
   else(JK,20))
 else
  (if b.length<24 then(JK,20)
   else if z8 b 20=b.length - 24/\Yn ⟨2,vI b 2,vI b 3 / 16,vI b 3 % 16,z8 b 4,z8 b 8,z8 b 12,z8 b 16,b.drop 24⟩=true then(⟨2,vI b 2,vI b 3 / 16,vI b 3 % 16,z8 b 4,z8 b 8,z8 b 12,z8 b 16,b.drop 24⟩,0)
   else(JK,20))
def zf4(s:List UInt8):y8×Int:=match xU s with|none=>(JK,21)|some b=>zmd b
abbrev zf5:=Nat×Int×List UInt8
abbrev xV:=Int×Int×zA
structure j8 where
 inst:Int
 ballot:Nat
 value:List UInt8
 promises:List jw
 promised:List Bool
 voted:List Bool
 votes:Nat
 asked:Bool
 told:Bool
structure jN where
 greatest:Nat
 accepted:Nat
 delivered:Nat
 stale:Bool
 lent:Bool
structure zf where
 nodes:List zr
 seats:List jN
 leads:List (Int×j8)
 last:Nat
 notes:List zf5
 hurt:List (Nat×Unit)
 trace:List xV
def yA:jN:=⟨0,0,0,false,false⟩
def Z7(n:Nat)(v cap:Int)(s:StD):zf:={nodes:=(List.range n).map λ(i:Nat)=>zhv i v cap [] s,seats:=List.replicate n yA,leads:=[],last:=0,notes:=[],hurt:=[],trace:=[] }
def zo(w:zf)(i:Nat):zr:=w.nodes[i]?.getD (zhv 0 0 0 [] (0,0,[]))
def jo(w:zf)(i:Nat):jN:=w.seats[i]?.getD yA
def setNode(w:zf)(i:Nat)(n:zr):zf:={w with nodes:=w.nodes.set i n}
def setSeat(w:zf)(i:Nat)(s:jN):zf:={w with seats:=w.seats.set i s}
def xn(w:zf)(i:Nat):zf:=setSeat w i {jo w i with stale:=true}
def jn(kind src dst:Int)(inst:Int)(ballot:Nat)(more:List UInt8):y8:=⟨1,kind,src,dst,0,0,0,0,le4 (inst % 4294967296).toNat++le8 ballot++more⟩
def yB(w:zf)(dst:Int)(s:List UInt8):zf×Nat×Int:=
 if 1000<=w.notes.length then(w,0,30)else({w with last:=(w.last+1)% 4294967296,notes:=w.notes++ [((w.last+1)% 4294967296,dst,s)] },(w.last+1)% 4294967296,0)
def vp(w:zf)(f:y8):zf:=if(qO f).2=0 then(yB w f.dst (qO f).1).1 else w
def j9(w:zf)(kind src inst:Int)(ballot:Nat)(more:List UInt8):zf:=(List.range w.nodes.length).foldl (λw (i:Nat)=>vp w (jn kind src i inst ballot more)) w
def jB(b:Nat)(node:Nat):Nat×Int:=if 16<=node∨1152921504606846976<b then(0,2)else if b / 16*16+node<=b then(b / 16*16+node+16,0)else(b / 16*16+node,0)
def yw(w:zf)(i:Nat):zf×Int:=
 if(zo w i).down then(w,170)
 else if(jB (jo w i).greatest i).2≠0 then(w,(jB (jo w i).greatest i).2)
 else
  let b:=(jB (jo w i).greatest i).1
  let l:j8:={inst:=yM (zo w i),ballot:=b,value:=(jX (zo w i)).1,promises:=[],promised:=List.replicate 16 false,voted:=List.replicate 16 false,votes:=0,asked:=false,told:=false}
  (j9 {setSeat w i {jo w i with greatest:=b} with leads:=put (i:Int) l w.leads} 3 i (yM (zo w i)) b [],0)
def Zh(n:Nat)(ps:List jw)(own:List UInt8):List UInt8×Int:=
 if n<ps.length∨2*ps.length<=n then([],81)
 else if ps.all yn=false∨4000<own.length then([],2)
 else((ps.foldl (λ(b:jw) v=>if b.2.1<v.2.1 then v else b) (0,0,own)).2.2,0)
def countPromise(w:zf)(i:Nat)(src:Nat)(inst:Int)(ballot:Nat)(more:List UInt8):zf:=
 match zE (i:Int) w.leads with
 |none=>w
 |some l=>
  if l.inst≠inst∨l.ballot≠ballot∨l.asked∨l.promised[src]?.getD false∨more.length<8 then w
  else
   let l1:={l with promised:=l.promised.set src true,promises:=l.promises++ [(ballot,z8 more 0+4294967296*z8 more 4,more.drop 8)] }
   let w1:={w with leads:=put (i:Int) l1 w.leads}
   if 2*l1.promises.length<=w.nodes.length then w1
   else if(Zh w.nodes.length l1.promises l1.value).2≠0 then w1
   else j9 {w with leads:=put (i:Int) {l1 with asked:=true,value:=(Zh w.nodes.length l1.promises l1.value).1} w.leads} 5 i inst ballot (Zh w.nodes.length l1.promises l1.value).1
def countVote(w:zf)(i:Nat)(src:Nat)(inst:Int)(ballot:Nat):zf:=
 match zE (i:Int) w.leads with
 |none=>w
 |some l=>
  if l.inst≠inst∨l.ballot≠ballot∨l.told∨l.voted[src]?.getD false then w
  else
   let l1:={l with voted:=l.voted.set src true,votes:=l.votes+1}
   if 2*l1.votes<=w.nodes.length then {w with leads:=put (i:Int) l1 w.leads}
   else j9 {w with leads:=put (i:Int) {l1 with told:=true} w.leads} 7 i inst ballot l1.value
def yZ(w:zf)(i:Nat)(f:y8)(inst:Int)(ballot:Nat)(more:List UInt8):zf:=
 match zE inst (zo w i).pax.known with
 |some x=>vp w (jn 7 i f.src inst ballot x)
 |none=>
  if f.kind=5 then
   let r:=yS (zo w i) inst ballot more
   if r.2=0 then vp (setNode w i r.1) (jn 6 i f.src inst ballot [])else setNode w i r.1
  else
   let r:=zC (zo w i) inst ballot
   if r.2.2=0 then vp (setNode w i r.1) (jn 4 i f.src inst ballot (le8 r.2.1.2.1++r.2.1.2.2))else setNode w i r.1
def yN(w:zf)(i:Nat)(f:y8):zf:=
 if f.data.length<12 then w
 else
  let inst:Int:=z8 f.data 0
  let ballot:=z8 f.data 4+4294967296*z8 f.data 8
  let more:=f.data.drop 12
  if f.kind=3∨f.kind=5 then yZ w i f inst ballot more
  else if f.kind=4 then countPromise w i f.src.toNat inst ballot more
  else if f.kind=6 then countVote w i f.src.toNat inst ballot
  else if f.kind=7 then setNode (xn w i) i (jg (zo w i) inst more).1
  else w
def xR(w:zf)(place:Int):zf×Int:=
 if place<0 then(w,2)else match w.notes[place.toNat]? with
 |none=>(w,2)
 |some (id,dst,s)=>
  let w1:={w with notes:=w.notes.eraseIdx place.toNat,hurt:=del id w.hurt}
  if(zf4 s).2=0/\(zo w1 dst.toNat).down=false then(yN w1 dst.toNat (zf4 s).1,0)else(w1,0)
def zlp(w:zf)(place:Int):zf×Int:=
 if place<0 then(w,2)else match w.notes[place.toNat]? with
 |none=>(w,2)
 |some (id,_,_)=>({w with notes:=w.notes.eraseIdx place.toNat,hurt:=del id w.hurt},0)
def zlq(w:zf)(place:Int):zf×Int:=
 if place<0 then(w,2)else match w.notes[place.toNat]? with
 |none=>(w,2)
 |some (id,dst,s)=>
  let r:=yB w dst s
  if r.2.2≠0 then(w,r.2.2)else if(zE id w.hurt).isSome then({r.1 with hurt:=put r.2.1 () r.1.hurt},0)else(r.1,0)
def zlr(w:zf)(place bit:Int)(mask:Nat):zf×Int:=
 if place<0 then(w,2)else match w.notes[place.toNat]? with
 |none=>(w,2)
 |some (id,dst,s)=>
  if(zE id w.hurt).isSome then(w,180)
  else if(zdL s bit mask).2≠0 then(w,(zdL s bit mask).2)
  else({w with notes:=w.notes.set place.toNat (id,dst,(zdL s bit mask).1),hurt:=put id () w.hurt},0)
def tellOne(w:zf)(deliver:Bool)(i:Nat):zf:=
 let s:=jo w i
 if s.stale||s.lent then
  (if deliver then {setSeat w i {s with delivered:=max s.delivered (zo w i).loc.log.length,stale:=false} with trace:=w.trace++((zo w i).loc.log.drop s.delivered).map λm=>(3,(i:Int),m)}
   else {setSeat w i {s with accepted:=max s.accepted (zo w i).acc.length} with trace:=w.trace++((zo w i).acc.drop s.accepted).map λm=>(1,(i:Int),m)})
 else w
def vq(w:zf):zf:=(List.range w.nodes.length).foldl (λw i=>tellOne w true i) ((List.range w.nodes.length).foldl (λw i=>tellOne w false i) w)
structure OpD where
 kind:Int
 node:Int
 a:Int
 b:Int
 mask:Nat
 s:List UInt8
def yg(w:zf)(s:StD)(o:OpD):zf×Int:=
 let i:=o.node.toNat
 if o.kind=1 then(setNode (xn w i) i (zv (zo w i) o.s).1,(zv (zo w i) o.s).2.2)
 else if o.kind=2 then yw w i
 else if o.kind=3 then xR w o.a
 else if o.kind=4 then zlp w o.a
 else if o.kind=5 then zlq w o.a
 else if o.kind=6 then zlr w o.a o.b o.mask
 else if o.kind=7 then(setNode {w with leads:=del o.node w.leads} i (vU (zo w i)).1,(vU (zo w i)).2)
 else if o.kind=8 then(setNode w i (J4 (zo w i) o.a).1,(J4 (zo w i) o.a).2)
 else if o.kind=9 then(setNode {xn w i with leads:=del o.node w.leads} i (jt (zo w i) s),0)
 else if o.kind=10 then(setNode w i (JI (zo w i) o.a).1,(JI (zo w i) o.a).2)
 else(w,180)
def doW(s:StD)(w:zf)(o:OpD):zf×Int:=
 if o.kind<1∨10<o.kind then(w,180)
 else if¬(3<=o.kind/\o.kind<=6)/\(o.node<0∨(w.nodes.length:Int)<=o.node)then(w,180)
 else
  let r:=yg w s o
  if o.kind=1/\r.2≠0 then({vq r.1 with trace:=(vq r.1).trace++ [(2,o.node,((0,0),[]))] },r.2)else(vq r.1,r.2)
def ze0(w:zf)(i:Nat):Bool:=(jX (zo w i)).2||w.nodes.any λn=>decide (yM (zo w i)<yM n)
def qP(w:zf):Bool:=w.notes.isEmpty &&(List.range w.nodes.length).all λi=> !(zo w i).down && !ze0 w i
theorem xt {i:Int}(h0:0<=i)(h1:i<256):(vi i).toNat=i.toNat:=by
 unfold vi;rw [UInt8.toNat_ofNat'];omega
def qQ(kind src dst:Int)(data:List UInt8):y8:=⟨1,kind,src,dst,0,0,0,0,data⟩
theorem zcc {kind src dst:Int}{data:List UInt8}(hk:0<=kind)(hk2:kind<=31)(hs:0<=src)(hs2:src<16)(hd:0<=dst)(hd2:dst<16)(hl:data.length<=4096):Yn (qQ kind src dst data)=true:=by
 unfold Yn qQ;simp
 omega
theorem zdM {kind src dst:Int}{data:List UInt8}(hk:0<=kind)(hk2:kind<=31)(hs:0<=src)(hs2:src<16)(hd:0<=dst)(hd2:dst<16)(hl:data.length<=4096):
 (qO (qQ kind src dst data)).2=0/\zf4 (qO (qQ kind src dst data)).1=(qQ kind src dst data,0):=by
 have hr:=zcc hk hk2 hs hs2 hd hd2 hl
 have he:qO (qQ kind src dst data)=(Zb (72::1::vi kind::vi (src*16+dst)::0::0::0::0::0::0::0::0::0::0::0::0::(le4 data.length++data)),0):=by
  unfold qO;rw [if_neg (by rw [hr];simp)];have z:le4 0=[0,0,0,0]:=rfl;have w1:vi 1=1:=rfl
  show(Zb ([72,vi 1,vi kind,vi (src*16+dst)] ++le4 0++le4 0++le4 0++(if(1:Int)=2 then le4 0 else [])++le4 data.length++data),(0:Int))=_
  rw [z,w1,if_neg (by decide)];simp
 rw [he];refine⟨rfl,?_⟩;unfold zf4;rw [Xi];simp only;obtain⟨l4,h4⟩:∃l4,l4=le4 data.length:=⟨_,rfl⟩;have aa:l4.length=4:=by rw [h4];rfl
 rw [← h4];have hg:yy l4=data.length:=by rw [h4,vl];omega
 have w0:yy [(0:UInt8),0,0,0]=0:=rfl;have k1:=xt hk (by omega);have k2:=xt (i:=src*16+dst) (by omega) (by omega);unfold zmd;rw [if_neg (by simp [vI]),if_neg (by simp [vI]),if_pos (by simp [vI])];rw [if_neg (by simp [aa])]
 have ad:z8 (72::1::vi kind::vi (src*16+dst)::0::0::0::0::0::0::0::0::0::0::0::0::(l4++data)) 16=data.length:=by
  unfold z8
  show yy ((l4++data).take 4)=_
  rw [List.take_append_of_le_length (by omega),List.take_of_length_le (by omega),hg]
 have ac:(72::1::vi kind::vi (src*16+dst)::0::0::0::0::0::0::0::0::0::0::0::0::(l4++data)).drop 20=data:=by
  show(l4++data).drop 4=data
  rw [List.drop_append_of_le_length (by omega),List.drop_of_length_le (by omega),List.nil_append]
 have b2:vI (72::1::vi kind::vi (src*16+dst)::0::0::0::0::0::0::0::0::0::0::0::0::(l4++data)) 2=kind.toNat:=k1;have b3:vI (72::1::vi kind::vi (src*16+dst)::0::0::0::0::0::0::0::0::0::0::0::0::(l4++data)) 3=(src*16+dst).toNat:=k2
 have w4:∀i,i=4∨i=8∨i=12->z8 (72::1::vi kind::vi (src*16+dst)::0::0::0::0::0::0::0::0::0::0::0::0::(l4++data)) i=0:=by
  rintro i(rfl|rfl|rfl)<;>rfl
 rw [b2,b3,ad,ac,w4 4 (by simp),w4 8 (by simp),w4 12 (by simp)]
 have hf:(⟨1,(kind.toNat:Int),(((src*16+dst).toNat:Int)) / 16,((src*16+dst).toNat:Int)% 16,0,0,0,0,data⟩:y8)=qQ kind src dst data:=by
  unfold qQ
  congr 1<;>omega
 rw [hf,hr,if_pos ⟨by simp [aa],rfl⟩]
theorem Q0(kind src dst inst:Int)(ballot:Nat)(more:List UInt8):jn kind src dst inst ballot more=qQ kind src dst (le4 (inst % 4294967296).toNat++le8 ballot++more):=rfl
theorem Xv(inst:Int)(ballot:Nat)(more:List UInt8)(hi:0<=inst)(hi2:inst<4294967296)(hb:ballot<18446744073709551616):
 (z8 (le4 (inst % 4294967296).toNat++le8 ballot++more) 0:Int)=inst/\z8 (le4 (inst % 4294967296).toNat++le8 ballot++more) 4+4294967296*z8 (le4 (inst % 4294967296).toNat++le8 ballot++more) 8=ballot/\
  (le4 (inst % 4294967296).toNat++le8 ballot++more).drop 12=more/\(le4 (inst % 4294967296).toNat++le8 ballot++more).length=12+more.length:=by
 refine⟨?_,?_,rfl,?_⟩
 ·show((yy (le4 (inst % 4294967296).toNat):Nat):Int)=inst
  rw [vl];omega
 ·show yy (le4 ballot)+4294967296*yy (le4 (ballot / 4294967296))=ballot
  rw [vl,vl];omega
 rw [N1,N1];rfl
def jA(w:zf)(i:Nat)(kind src inst:Int)(ballot:Nat)(more:List UInt8):zf:=
 if kind=3∨kind=5 then yZ w i (jn kind src i inst ballot more) inst ballot more
 else if kind=4 then countPromise w i src.toNat inst ballot more
 else if kind=6 then countVote w i src.toNat inst ballot
 else if kind=7 then setNode (xn w i) i (jg (zo w i) inst more).1
 else w
theorem zdN {w:zf}{id dst:Nat}{kind src inst:Int}{ballot:Nat}{more:List UInt8}{rest:List zf5}(hn:w.notes=(id,(dst:Int),(qO (jn kind src dst inst ballot more)).1)::rest)
 (hk:0<=kind) (hk2:kind<=31) (hs:0<=src) (hs2:src<16) (hd2:dst<16) (hi:0<=inst) (hi2:inst<4294967296) (hb:ballot<18446744073709551616) (hm:more.length<=4084) (hup:(zo w dst).down=false):
 xR w 0=(jA {w with notes:=rest,hurt:=del id w.hurt} dst kind src inst ballot more,0):=by
 obtain⟨d1,d2,d3,d4⟩:=Xv inst ballot more hi hi2 hb;obtain⟨e1,e2⟩:=zdM (kind:=kind) (src:=src) (dst:=(dst:Int)) (data:=le4 (inst % 4294967296).toNat++le8 ballot++more) hk hk2 hs hs2 (by omega) (by omega) (by omega);rw [← Q0] at e1 e2;unfold xR;rw [if_neg (by omega),hn]
 show(if(zf4 (qO (jn kind src dst inst ballot more)).1).2=0/\(zo {w with notes:=((id,(dst:Int),(qO (jn kind src dst inst ballot more)).1)::rest).eraseIdx (0:Int).toNat,hurt:=del id w.hurt} ((dst:Int)).toNat).down=false then _ else _)=_
 have ac:(zo {w with notes:=((id,(dst:Int),(qO (jn kind src dst inst ballot more)).1)::rest).eraseIdx (0:Int).toNat,hurt:=del id w.hurt} ((dst:Int)).toNat).down=false:=hup;rw [e2,if_pos ⟨rfl,ac⟩]
 congr 1
 show yN {w with notes:=rest,hurt:=del id w.hurt} dst (jn kind src dst inst ballot more)=_
 unfold yN;have aa:(jn kind src dst inst ballot more).data=le4 (inst % 4294967296).toNat++le8 ballot++more:=rfl;rw [aa,if_neg (by omega)];simp only;rw [d1,d2,d3];rfl
structure vJ where
 kind:Nat
 src:Nat
 dst:Nat
 inst:Nat
 ballot:Nat
 more:List UInt8
def vJ.ok(n:Nat)(l:vJ):Prop:=l.kind<=7/\l.src<n/\l.dst<n/\l.inst<4294967296/\l.ballot<18446744073709551616/\l.more.length<=4084
def vJ.note(l:vJ):Int×List UInt8:=((l.dst:Int),(qO (jn l.kind l.src l.dst l.inst l.ballot l.more)).1)
structure IsW(W:zf)(ns:List zr)(ss:List jN)(ld:List (Int×j8))(ls:List vJ)(tr:List xV):Prop where
 nodes:W.nodes=ns
 seats:W.seats=ss
 leads:W.leads=ld
 notes:W.notes.map (·.2)=ls.map vJ.note
 hurt:W.hurt=[]
 trace:W.trace=tr
variable {W:zf}{ns:List zr}{ss:List jN}{ld:List (Int×j8)}{ls:List vJ}{tr:List xV}
theorem IsW.len(h:IsW W ns ss ld ls tr):W.notes.length=ls.length:=by
 have:=congrArg List.length h.notes
 simpa using this
theorem IsW.send(h:IsW W ns ss ld ls tr)(l:vJ)(hl:l.ok 16)(hf:ls.length<1000):IsW (vp W (jn l.kind l.src l.dst l.inst l.ballot l.more)) ns ss ld (ls++ [l]) tr:=by
 obtain⟨h1,h2,h3,h4,h5,h6⟩:=hl;have hd:=zdM (kind:=(l.kind:Int)) (src:=(l.src:Int)) (dst:=(l.dst:Int)) (data:=le4 ((l.inst:Int)% 4294967296).toNat++le8 l.ballot++l.more) (by omega) (by omega) (by omega) (by omega) (by omega) (by omega) (by rw [(Xv (l.inst:Int) l.ballot l.more (by omega) (by omega) h5).2.2.2];omega);rw [← Q0] at hd;unfold vp;rw [if_pos hd.1];unfold yB;rw [if_neg (by rw [h.len];omega)];refine⟨h.nodes,h.seats,h.leads,?_,h.hurt,h.trace⟩
 show(W.notes++ [((W.last+1)% 4294967296,(jn l.kind l.src l.dst l.inst l.ballot l.more).dst,(qO (jn l.kind l.src l.dst l.inst l.ballot l.more)).1)]).map (·.2)=_
 rw [List.map_append,h.notes,List.map_append];rfl
theorem IsW.sends(h:IsW W ns ss ld ls tr)(kind src inst ballot:Nat)(more:List UInt8):∀(js:List Nat),(∀j∈js,vJ.ok 16 ⟨kind,src,j,inst,ballot,more⟩)->ls.length+js.length<=1000->
 IsW (js.foldl (λw (i:Nat)=>vp w (jn kind src i inst ballot more)) W) ns ss ld (ls++js.map (λj=>⟨kind,src,j,inst,ballot,more⟩)) tr:=by
 intro js
 induction js generalizing W ls with
 |nil=>intro _ _;simpa using h
 |cons j js ih=>
  intro hj hl;have h1:=h.send ⟨kind,src,j,inst,ballot,more⟩ (hj j (List.mem_cons_self ..)) (by simp at hl;omega);have h2:=ih h1 (λk hk=>hj k (U7 _ hk)) (by simp at hl⊢;omega)
  simpa [List.append_assoc] using h2
theorem IsW.sendAll(h:IsW W ns ss ld ls tr)(kind src inst ballot:Nat)(more:List UInt8)(hok:∀j,j<ns.length->vJ.ok 16 ⟨kind,src,j,inst,ballot,more⟩)(hl:ls.length+ns.length<=1000):
 IsW (j9 W kind src inst ballot more) ns ss ld (ls++(List.range ns.length).map (λj=>⟨kind,src,j,inst,ballot,more⟩)) tr:=by
 unfold j9;rw [h.nodes];exact h.sends kind src inst ballot more (List.range ns.length) (λj hj=>hok j (List.mem_range.1 hj)) (by simpa using hl)
theorem IsW.node(h:IsW W ns ss ld ls tr)(i:Nat):zo W i=ns[i]?.getD (zhv 0 0 0 [] (0,0,[])):=by unfold zo;rw [h.nodes]
theorem IsW.seat(h:IsW W ns ss ld ls tr)(i:Nat):jo W i=ss[i]?.getD yA:=by unfold jo;rw [h.seats]
theorem IsW.take {l:vJ}(h:IsW W ns ss ld (l::ls) tr)(hl:l.ok 16){m:zr}(hm:ns[l.dst]?=some m)(hup:m.down=false):
 ∃V,IsW V ns ss ld ls tr/\(xR W 0).1=jA V l.dst l.kind l.src l.inst l.ballot l.more:=by
 obtain⟨h1,h2,h3,h4,h5,h6⟩:=hl
 cases hn:W.notes with
 |nil=>have:=h.len;rw [hn] at this;simp at this
 |cons x rest=>
  obtain⟨id,dst,s⟩:=x;have hx:=h.notes;rw [hn] at hx;simp only [List.map_cons,List.cons.injEq] at hx;obtain⟨ac,ad⟩:=hx;have aa:dst=(l.dst:Int)/\s=(qO (jn l.kind l.src l.dst l.inst l.ballot l.more)).1:=by simpa [vJ.note] using ac
  obtain⟨rfl,rfl⟩:=aa;have ht:=zdN (w:=W) (id:=id) (dst:=l.dst) (kind:=(l.kind:Int)) (src:=(l.src:Int)) (inst:=(l.inst:Int)) (ballot:=l.ballot) (more:=l.more) (rest:=rest) hn (by omega) (by omega) (by omega) (by omega) h3 (by omega) (by omega) h5 h6 (by rw [h.node,hm];exact hup);refine⟨{W with notes:=rest,hurt:=del id W.hurt},⟨h.nodes,h.seats,h.leads,ad,?_,h.trace⟩,by rw [ht]⟩
  show del id W.hurt=[]
  rw [h.hurt];rfl
end
section
open Go
def yp(ss:List jN):Prop:=∀i:Nat,(ss[i]?.getD yA).stale=false/\(ss[i]?.getD yA).lent=false
theorem zaO {w:zf}(h:yp w.seats)(d:Bool)(i:Nat):tellOne w d i=w:=by
 have h1:=h i;unfold tellOne;simp only;rw [show jo w i=w.seats[i]?.getD yA from rfl,h1.1,h1.2];simp
theorem Xw {w:zf}(h:yp w.seats)(d:Bool)(l:List Nat):l.foldl (λw i=>tellOne w d i) w=w:=by
 induction l with
 |nil=>rfl
 |cons i l ih=>rw [List.foldl_cons,zaO h];exact ih
theorem x8 {w:zf}(h:yp w.seats):vq w=w:=by
 unfold vq;rw [Xw h,Xw h]
def vr(w:zf):zf:=vq (xR w 0).1
theorem zls(s:StD)(w:zf):(doW s w ⟨3,0,0,0,0,[]⟩).1=vr w:=by
 unfold doW yg vr;simp
variable {W:zf}{ns:List zr}{ss:List jN}{ld:List (Int×j8)}{ls:List vJ}{tr:List xV}
theorem IsW.setNode(h:IsW W ns ss ld ls tr)(j:Nat)(m:zr):IsW (setNode W j m) (ns.set j m) ss ld ls tr:=⟨by show W.nodes.set j m=_;rw [h.nodes],h.seats,h.leads,h.notes,h.hurt,h.trace⟩
theorem IsW.prepare {i j q b:Nat}{m m':zr}(h:IsW W ns ss ld (⟨3,i,j,q,b,[]⟩::ls) tr)(hq:yp ss)(hi:i<16)(hj:j<16)(hq2:q<4294967296)(hb:b<18446744073709551616)(hm:ns[j]?=some m)(hup:m.down=false)
 (hk:zE (q:Int) m.pax.known=none) (hp:zC m q b=(m',(b,0,[]),0)) (hl:ls.length<999):IsW (vr W) (ns.set j m') ss ld (ls++ [⟨4,j,i,q,b,le8 0⟩]) tr:=by
 obtain⟨V,hV,ht⟩:=h.take ⟨by show 3<=7;omega,hi,hj,hq2,hb,by simp⟩ (m:=m) hm hup;have hn:zo V j=m:=by rw [hV.node,hm];rfl
 have hr:jA V j 3 i q b []=vp (Go.Proofs.YtofppfoioodblaaGreatDoor.setNode V j m') (jn 4 j i q b (le8 0)):=by
  unfold jA;rw [if_pos (.inl rfl)];unfold yZ;rw [hn,hk];simp only;rw [if_neg (by show¬((3:Int)=5);omega),hp];simp only;rw [if_pos trivial];rfl
 have hs:IsW (vp (Go.Proofs.YtofppfoioodblaaGreatDoor.setNode V j m') (jn 4 j i q b (le8 0))) (ns.set j m') ss ld (ls++ [⟨4,j,i,q,b,le8 0⟩]) tr:=(hV.setNode j m').send ⟨4,j,i,q,b,le8 0⟩ ⟨by show 4<=7;omega,hj,hi,hq2,hb,by show(le8 0).length<=4084;decide⟩ (by omega);unfold vr;rw [show(xR W 0).1=_ from ht];have aa:jA V (⟨3,i,j,q,b,[]⟩:vJ).dst ((⟨3,i,j,q,b,[]⟩:vJ).kind:Int) ((⟨3,i,j,q,b,[]⟩:vJ).src:Int) ((⟨3,i,j,q,b,[]⟩:vJ).inst:Int) b []=vp (Go.Proofs.YtofppfoioodblaaGreatDoor.setNode V j m') (jn 4 j i q b (le8 0)):=hr;rw [aa,x8 (by rw [hs.seats];exact hq)];exact hs
end
section
open Go
variable {W:zf}{ns:List zr}{ss:List jN}{ld:List (Int×j8)}{ls:List vJ}{tr:List xV}
theorem IsW.accept {i j q b:Nat}{x:List UInt8}{m m':zr}(h:IsW W ns ss ld (⟨5,i,j,q,b,x⟩::ls) tr)(hq:yp ss)(hi:i<16)(hj:j<16)(hq2:q<4294967296)(hb:b<18446744073709551616)(hx:x.length<=4084)(hm:ns[j]?=some m)(hup:m.down=false)
 (hk:zE (q:Int) m.pax.known=none) (hp:yS m q b x=(m',0)) (hl:ls.length<999):IsW (vr W) (ns.set j m') ss ld (ls++ [⟨6,j,i,q,b,[]⟩]) tr:=by
 obtain⟨V,hV,ht⟩:=h.take ⟨by show 5<=7;omega,hi,hj,hq2,hb,hx⟩ (m:=m) hm hup;have hn:zo V j=m:=by rw [hV.node,hm];rfl
 have hr:jA V j 5 i q b x=vp (Go.Proofs.YtofppfoioodblaaGreatDoor.setNode V j m') (jn 6 j i q b []):=by
  unfold jA;rw [if_pos (.inr rfl)];unfold yZ;rw [hn,hk];simp only;rw [if_pos (show(jn 5 i j q b x).kind=5 from rfl),hp];simp only;rw [if_pos trivial];rfl
 have hs:IsW (vp (Go.Proofs.YtofppfoioodblaaGreatDoor.setNode V j m') (jn 6 j i q b [])) (ns.set j m') ss ld (ls++ [⟨6,j,i,q,b,[]⟩]) tr:=(hV.setNode j m').send ⟨6,j,i,q,b,[]⟩ ⟨by show 6<=7;omega,hj,hi,hq2,hb,by simp⟩ (by omega);unfold vr;rw [show(xR W 0).1=_ from ht];have aa:jA V (⟨5,i,j,q,b,x⟩:vJ).dst ((⟨5,i,j,q,b,x⟩:vJ).kind:Int) ((⟨5,i,j,q,b,x⟩:vJ).src:Int) ((⟨5,i,j,q,b,x⟩:vJ).inst:Int) b x=vp (Go.Proofs.YtofppfoioodblaaGreatDoor.setNode V j m') (jn 6 j i q b []):=hr;rw [aa,x8 (by rw [hs.seats];exact hq)];exact hs
theorem IsW.counted {l:vJ}{m:zr}{ns':List zr}{ld':List (Int×j8)}{ls':List vJ}(h:IsW W ns ss ld (l::ls) tr)(hq:yp ss)(hl:l.ok 16)(hm:ns[l.dst]?=some m)(hup:m.down=false)
 (hr:∀V,IsW V ns ss ld ls tr->IsW (jA V l.dst l.kind l.src l.inst l.ballot l.more) ns' ss ld' ls' tr):IsW (vr W) ns' ss ld' ls' tr:=by
 obtain⟨V,hV,ht⟩:=h.take hl hm hup;have hs:=hr V hV;unfold vr;rw [show(xR W 0).1=_ from ht,x8 (by rw [hs.seats];exact hq)];exact hs
theorem IsW.setLeads(h:IsW W ns ss ld ls tr)(ld':List (Int×j8)):IsW {W with leads:=ld'} ns ss ld' ls tr:=⟨h.nodes,h.seats,rfl,h.notes,h.hurt,h.trace⟩
end
section
open Go
variable {W:zf}{ns:List zr}{ss:List jN}{ld:List (Int×j8)}{ls:List vJ}{tr:List xV}
theorem zj9:le8 0=[0,0,0,0,0,0,0,0]:=rfl
def yx(l:j8)(j b:Nat):j8:={l with promised:=l.promised.set j true,promises:=l.promises++ [(b,0,[])] }
theorem Yo {i j q b:Nat}{l:j8}(hV:IsW W ns ss ld ls tr)(hl:zE (i:Int) ld=some l)(h1:l.inst=(q:Int))(h2:l.ballot=b)(h3:l.promised[j]?.getD false=false)(h4:l.asked=false):
 countPromise W i j q b (le8 0)=(if 2*(yx l j b).promises.length<=ns.length then {W with leads:=put (i:Int) (yx l j b) W.leads}
  else if(Zh ns.length (yx l j b).promises l.value).2≠0 then {W with leads:=put (i:Int) (yx l j b) W.leads}
  else j9 {W with leads:=put (i:Int) {yx l j b with asked:=true,value:=(Zh ns.length (yx l j b).promises l.value).1} W.leads} 5 i q b (Zh ns.length (yx l j b).promises l.value).1):=by
 unfold countPromise;rw [hV.leads,hl];simp only;rw [if_neg (by rw [h1,h2,h3,h4,zj9];simp)];rw [hV.nodes];rfl
theorem Yp {i j q b:Nat}{l:j8}{more:List UInt8}(hV:IsW W ns ss ld ls tr)(hl:zE (i:Int) ld=some l)(h4:l.asked=true):countPromise W i j q b more=W:=by
 unfold countPromise;rw [hV.leads,hl];simp only;rw [if_pos (.inr (.inr (.inl (by simpa using h4))))]
def Yq(l:j8)(j:Nat):j8:={l with voted:=l.voted.set j true,votes:=l.votes+1}
theorem Q1 {i j q b:Nat}{l:j8}(hV:IsW W ns ss ld ls tr)(hl:zE (i:Int) ld=some l)(h1:l.inst=(q:Int))(h2:l.ballot=b)(h3:l.voted[j]?.getD false=false)(h4:l.told=false):
 countVote W i j q b=(if 2*(Yq l j).votes<=ns.length then {W with leads:=put (i:Int) (Yq l j) W.leads} else j9 {W with leads:=put (i:Int) {Yq l j with told:=true} W.leads} 7 i q b l.value):=by
 unfold countVote;rw [hV.leads,hl];simp only;rw [if_neg (by rw [h1,h2,h3,h4];simp)];rw [hV.nodes];rfl
theorem Xx {i j q b:Nat}{l:j8}(hV:IsW W ns ss ld ls tr)(hl:zE (i:Int) ld=some l)(h4:l.told=true):countVote W i j q b=W:=by
 unfold countVote;rw [hV.leads,hl];simp only;rw [if_pos (.inr (.inr (.inl (by simpa using h4))))]
theorem zka(n:Nat)(ps:List jw)(own:List UInt8)(hn:ps.length<=n)(hm:n<2*ps.length)(hp:∀v∈ps,∃b,v=(b,0,[]))(ho:own.length<=4000):Zh n ps own=(own,0):=by
 unfold Zh;rw [if_neg (by omega)]
 have aa:ps.all yn=true:=by
  rw [List.all_eq_true];intro v hv;obtain⟨b,rfl⟩:=hp v hv;simp [yn]
 rw [if_neg (by rw [aa];simp;omega)]
 have hf:∀(l:List jw)(x:jw),(∀v∈l,∃b,v=(b,0,[]))->l.foldl (λ(b:jw) v=>if b.2.1<v.2.1 then v else b) x=x:=by
  intro l
  induction l with
  |nil=>intro x _;rfl
  |cons v l ih=>
   intro x h;obtain⟨b,hv⟩:=h v (List.mem_cons_self ..);rw [List.foldl_cons,hv,if_neg (by simp)];exact ih x (λv hv=>h v (U7 _ hv))
 rw [hf ps _ hp]
end
section
open Go
def xE(ss:List jN)(j:Nat):Prop:=∀i:Nat,i≠j->(ss[i]?.getD yA).stale=false/\(ss[i]?.getD yA).lent=false
theorem zaP(w:zf)(d:Bool)(j i:Nat)(h:i≠j):(tellOne w d j).seats[i]?=w.seats[i]?:=by
 unfold tellOne;simp only
 split
 ·split
  ·show(w.seats.set j _)[i]?=_
   rw [List.getElem?_set_ne (Ne.symm h)]
  show(w.seats.set j _)[i]?=_
  rw [List.getElem?_set_ne (Ne.symm h)]
 rfl
theorem Xy {w:zf}{j:Nat}(h:xE w.seats j)(d:Bool)(i:Nat)(hi:i≠j):tellOne w d i=w:=by
 have h1:=h i hi;unfold tellOne;simp only;rw [show jo w i=w.seats[i]?.getD yA from rfl,h1.1,h1.2];simp
theorem xE.tell {w:zf}{j:Nat}(h:xE w.seats j)(d:Bool):xE (tellOne w d j).seats j:=λi hi=>by rw [zaP w d j i hi];exact h i hi
theorem zf6 {w:zf}{j:Nat}(h:xE w.seats j)(d:Bool):∀(l:List Nat),j∉l->l.foldl (λw i=>tellOne w d i) w=w:=by
 intro l
 induction l with
 |nil=>intro _;rfl
 |cons i l ih=>
  intro hj;rw [List.foldl_cons,Xy h d i (λe=>hj (by rw [e];exact List.mem_cons_self ..))];exact ih (λe=>hj (U7 _ e))
theorem zcd {w:zf}{j:Nat}(h:xE w.seats j)(d:Bool):∀(l:List Nat),l.Nodup->j∈l->l.foldl (λw i=>tellOne w d i) w=tellOne w d j:=by
 intro l
 induction l with
 |nil=>intro _ hj;cases hj
 |cons i l ih=>
  intro hn hj;rw [List.foldl_cons];obtain⟨aa,ac⟩:=List.nodup_cons.1 hn
  by_cases hij:i=j
  ·subst hij
   exact zf6 (h.tell d) d l aa
  rw [Xy h d i hij]
  rcases List.mem_cons.1 hj with e|e
  ·exact absurd e.symm hij
  exact ih ac e
theorem zkb {w:zf}{j:Nat}(h:xE w.seats j)(hj:j<w.nodes.length):vq w=tellOne (tellOne w false j) true j:=by
 unfold vq;have hr:(List.range w.nodes.length).Nodup:=List.nodup_range;rw [zcd h false _ hr (List.mem_range.2 hj),zcd (h.tell false) true _ hr (List.mem_range.2 hj)]
variable {W:zf}{ns:List zr}{ss:List jN}{ld:List (Int×j8)}{ls:List vJ}{tr:List xV}
def JL(s:jN)(m:zr):jN:={s with accepted:=max s.accepted m.acc.length,delivered:=max s.delivered m.loc.log.length,stale:=false}
def Zi(s:jN)(j:Nat)(m:zr):List xV:=(m.acc.drop s.accepted).map (λx=>(1,(j:Int),x))++(m.loc.log.drop s.delivered).map (λx=>(3,(j:Int),x))
theorem Q2 {V:zf}{j:Nat}{s:jN}{m:zr}(hV:IsW V ns ss ld ls tr)(hq:xE ss j)(hj:j<ns.length)(hs:ss[j]?=some s)(hst:s.stale=true)(hm:ns[j]?=some m):
 IsW (vq V) ns (ss.set j (JL s m)) ld ls (tr++Zi s j m):=by
 have aa:j<ss.length:=(N6.1 hs).1;rw [zkb (j:=j) (by rw [hV.seats];exact hq) (by rw [hV.nodes];exact hj)]
 have h1:tellOne V false j={setSeat V j {s with accepted:=max s.accepted m.acc.length} with trace:=V.trace++(m.acc.drop s.accepted).map λx=>(1,(j:Int),x)} :=by
  unfold tellOne;simp only;rw [hV.seat,hs,hV.node,hm];simp [hst]
 rw [h1]
 have h2:jo ({setSeat V j {s with accepted:=max s.accepted m.acc.length} with trace:=V.trace++(m.acc.drop s.accepted).map λx=>(1,(j:Int),x)} :zf) j={s with accepted:=max s.accepted m.acc.length} :=by
  show(V.seats.set j _)[j]?.getD yA=_
  rw [hV.seats,List.getElem?_set_self aa];rfl
 have h3:zo ({setSeat V j {s with accepted:=max s.accepted m.acc.length} with trace:=V.trace++(m.acc.drop s.accepted).map λx=>(1,(j:Int),x)} :zf) j=m:=by
  show V.nodes[j]?.getD _=m
  rw [hV.nodes,hm];rfl
 unfold tellOne;simp only;rw [h2,h3];rw [if_pos (by simp [hst]),if_pos trivial];refine⟨hV.nodes,?_,hV.leads,hV.notes,hV.hurt,?_⟩
 ·show(V.seats.set j _).set j _=_
  rw [hV.seats,List.set_set];rfl
 show(V.trace++_)++_=_
 rw [hV.trace,List.append_assoc];rfl
theorem IsW.decided {i j q b:Nat}{x:List UInt8}{m:zr}{s:jN}(h:IsW W ns ss ld (⟨7,i,j,q,b,x⟩::ls) tr)(hq:yp ss)(hi:i<16)(hj:j<16)(hq2:q<4294967296)(hb:b<18446744073709551616)(hx:x.length<=4084)(hm:ns[j]?=some m)(hs:ss[j]?=some s)(hup:m.down=false):
 IsW (vr W) (ns.set j (jg m q x).1) (ss.set j (JL s (jg m q x).1)) ld ls (tr++Zi s j (jg m q x).1):=by
 obtain⟨V,hV,ht⟩:=h.take ⟨by show 7<=7;omega,hi,hj,hq2,hb,hx⟩ (m:=m) hm hup;have hn:zo V j=m:=by rw [hV.node,hm];rfl
 have ac:j<ns.length:=(N6.1 hm).1;have ad:j<ss.length:=(N6.1 hs).1
 have hr:jA V j 7 i q b x=Go.Proofs.YtofppfoioodblaaGreatDoor.setNode (xn V j) j (jg m q x).1:=by
  unfold jA;rw [if_neg (by omega),if_neg (by omega),if_neg (by omega),if_pos rfl,hn]
 have af:IsW (Go.Proofs.YtofppfoioodblaaGreatDoor.setNode (xn V j) j (jg m q x).1) (ns.set j (jg m q x).1) (ss.set j {s with stale:=true}) ld ls tr:=by
  refine⟨by show V.nodes.set j _=_;rw [hV.nodes],?_,hV.leads,hV.notes,hV.hurt,hV.trace⟩
  show V.seats.set j {jo V j with stale:=true} =_
  rw [hV.seat,hs,hV.seats];rfl
 have aa:xE (ss.set j {s with stale:=true}) j:=λk hk=>by rw [List.getElem?_set_ne (Ne.symm hk)];exact hq k
 have hT:=Q2 af aa (by simpa using ac) (List.getElem?_set_self ad) rfl (List.getElem?_set_self ac);unfold vr;rw [show(xR W 0).1=_ from ht];have ae:jA V (⟨7,i,j,q,b,x⟩:vJ).dst ((⟨7,i,j,q,b,x⟩:vJ).kind:Int) ((⟨7,i,j,q,b,x⟩:vJ).src:Int) ((⟨7,i,j,q,b,x⟩:vJ).inst:Int) b x=Go.Proofs.YtofppfoioodblaaGreatDoor.setNode (xn V j) j (jg m q x).1:=hr;rw [ae];rw [List.set_set] at hT;exact hT
end
section
open Go
def jm:Nat->zf->zf
 |0,w=>w
 |k+1,w=>jm k (vr w)
theorem qR:∀(a b:Nat)(w:zf),jm (a+b) w=jm b (jm a w)
 |0,b,w=>by rw [Nat.zero_add];rfl
 |a+1,b,w=>by rw [Nat.succ_add];exact qR a b (vr w)
variable {ss:List jN}{ld:List (Int×j8)}{tr:List xV}
theorem ze1 {i q b:Nat}(hq:yp ss)(hi:i<16)(hq2:q<4294967296)(hb:b<18446744073709551616):∀(js:List Nat)(W:zf)(ns:List zr)(ls:List vJ),js.Nodup->(∀j∈js,j<16/\∃m,ns[j]?=some m/\m.down=false/\zE (q:Int) m.pax.known=none/\(zC m q b).2=((b,0,[]),0))->ls.length+js.length<999->
 IsW W ns ss ld (js.map (λj=>⟨3,i,j,q,b,[]⟩)++ls) tr->
 IsW (jm js.length W) (js.foldl (λns j=>ns.modify j (λm=>(zC m q b).1)) ns) ss ld (ls++js.map (λj=>⟨4,j,i,q,b,le8 0⟩)) tr
 | [],W,ns,ls,_,_,_,h=>by simpa [jm] using h
 |j::js,W,ns,ls,hn,hm,hl,h=>by
  obtain⟨hj,m,h1,h2,h3,h4⟩:=hm j (List.mem_cons_self ..);obtain⟨hn1,hn2⟩:=List.nodup_cons.1 hn;have hs:=IsW.prepare (i:=i) (j:=j) (q:=q) (b:=b) (m:=m) (m':=(zC m q b).1) (ls:=js.map (λj=>⟨3,i,j,q,b,[]⟩)++ls) h hq hi hj hq2 hb h1 h2 h3 (by rw [← h4]) (by simp at hl⊢;omega)
  have hset:ns.modify j (λm=>(zC m q b).1)=ns.set j (zC m q b).1:=by
   apply List.ext_getElem?
   intro k;rw [List.getElem?_modify]
   by_cases hk:j=k
   ·subst hk
    rw [List.getElem?_set_self (N6.1 h1).1,h1];simp
   rw [List.getElem?_set_ne hk];simp [hk]
  have ih:=ze1 hq hi hq2 hb js (vr W) (ns.set j (zC m q b).1) (ls++ [⟨4,j,i,q,b,le8 0⟩]) hn2 (λk hk=>by
   obtain⟨g0,g⟩:=hm k (U7 _ hk);refine⟨g0,?_⟩;rw [List.getElem?_set_ne (λe=>hn1 (by rw [e];exact hk))]
   exact g) (by simp at hl⊢;omega) (by simpa [List.append_assoc] using hs)
  rw [List.foldl_cons,hset,List.length_cons]
  show IsW (jm js.length (vr W)) _ _ _ _ _
  simpa [List.append_assoc] using ih
theorem zh9 {i q b:Nat}{x:List UInt8}(hq:yp ss)(hi:i<16)(hq2:q<4294967296)(hb:b<18446744073709551616)(hx:x.length<=4084):∀(js:List Nat)(W:zf)(ns:List zr)(ls:List vJ),js.Nodup->(∀j∈js,j<16/\∃m,ns[j]?=some m/\m.down=false/\zE (q:Int) m.pax.known=none/\(yS m q b x).2=0)->ls.length+js.length<999->
 IsW W ns ss ld (js.map (λj=>⟨5,i,j,q,b,x⟩)++ls) tr->
 IsW (jm js.length W) (js.foldl (λns j=>ns.modify j (λm=>(yS m q b x).1)) ns) ss ld (ls++js.map (λj=>⟨6,j,i,q,b,[]⟩)) tr
 | [],W,ns,ls,_,_,_,h=>by simpa [jm] using h
 |j::js,W,ns,ls,hn,hm,hl,h=>by
  obtain⟨hj,m,h1,h2,h3,h4⟩:=hm j (List.mem_cons_self ..);obtain⟨hn1,hn2⟩:=List.nodup_cons.1 hn;have hs:=IsW.accept (i:=i) (j:=j) (q:=q) (b:=b) (m:=m) (m':=(yS m q b x).1) (ls:=js.map (λj=>⟨5,i,j,q,b,x⟩)++ls) h hq hi hj hq2 hb hx h1 h2 h3 (by rw [← h4]) (by simp at hl⊢;omega)
  have hset:ns.modify j (λm=>(yS m q b x).1)=ns.set j (yS m q b x).1:=by
   apply List.ext_getElem?
   intro k;rw [List.getElem?_modify]
   by_cases hk:j=k
   ·subst hk
    rw [List.getElem?_set_self (N6.1 h1).1,h1];simp
   rw [List.getElem?_set_ne hk];simp [hk]
  have ih:=zh9 hq hi hq2 hb hx js (vr W) (ns.set j (yS m q b x).1) (ls++ [⟨6,j,i,q,b,[]⟩]) hn2 (λk hk=>by
   obtain⟨g0,g⟩:=hm k (U7 _ hk);refine⟨g0,?_⟩;rw [List.getElem?_set_ne (λe=>hn1 (by rw [e];exact hk))]
   exact g) (by simp at hl⊢;omega) (by simpa [List.append_assoc] using hs)
  rw [List.foldl_cons,hset,List.length_cons]
  show IsW (jm js.length (vr W)) _ _ _ _ _
  simpa [List.append_assoc] using ih
end
section
open Go
def xa(q:Int)(x:List UInt8)(A:List zr×List jN×List xV)(j:Nat):List zr×List jN×List xV:=
 match A.1[j]?,A.2.1[j]? with
 |some m,some s=>(A.1.set j (jg m q x).1,A.2.1.set j (JL s (jg m q x).1),A.2.2++Zi s j (jg m q x).1)
 |_,_=>A
variable {ld:List (Int×j8)}
theorem Z8 {ss:List jN}(hq:yp ss)(j:Nat){s:jN}(hs:ss[j]?=some s)(m:zr):yp (ss.set j (JL s m)):=λi=>by
 by_cases hij:j=i
 ·subst hij
  rw [List.getElem?_set_self (N6.1 hs).1];have:=(hq j).2;rw [hs] at this;exact⟨rfl,this⟩
 rw [List.getElem?_set_ne hij];exact hq i
theorem ze2 {i q b:Nat}{x:List UInt8}(hi:i<16)(hq2:q<4294967296)(hb:b<18446744073709551616)(hx:x.length<=4084):∀(js:List Nat)(W:zf)(A:List zr×List jN×List xV)(ls:List vJ),yp A.2.1->js.Nodup->(∀j∈js,j<16/\∃m s,A.1[j]?=some m/\A.2.1[j]?=some s/\m.down=false)->
 IsW W A.1 A.2.1 ld (js.map (λj=>⟨7,i,j,q,b,x⟩)++ls) A.2.2->
 IsW (jm js.length W) (js.foldl (xa q x) A).1 (js.foldl (xa q x) A).2.1 ld ls (js.foldl (xa q x) A).2.2/\yp (js.foldl (xa q x) A).2.1
 | [],W,A,ls,hq,_,_,h=>⟨by simpa [jm] using h,hq⟩
 |j::js,W,A,ls,hq,hn,hm,h=>by
  obtain⟨hj,m,s,h1,h2,h3⟩:=hm j (List.mem_cons_self ..);obtain⟨hn1,hn2⟩:=List.nodup_cons.1 hn;have hs:=IsW.decided (i:=i) (j:=j) (q:=q) (b:=b) (x:=x) (m:=m) (s:=s) (ls:=js.map (λj=>⟨7,i,j,q,b,x⟩)++ls) h hq hi hj hq2 hb hx h1 h2 h3;have hd:xa q x A j=(A.1.set j (jg m q x).1,A.2.1.set j (JL s (jg m q x).1),A.2.2++Zi s j (jg m q x).1):=by unfold xa;rw [h1,h2]
  rw [List.foldl_cons,hd,List.length_cons];refine ze2 hi hq2 hb hx js (vr W) _ ls (Z8 hq j h2 _) hn2 (λk hk=>?_) hs;obtain⟨g0,m',s',g1,g2,g3⟩:=hm k (U7 _ hk);have aa:j≠k:=λe=>hn1 (by rw [e];exact hk)
  exact⟨g0,m',s',by show(A.1.set j _)[k]?=_;rw [List.getElem?_set_ne aa];exact g1,by show(A.2.1.set j _)[k]?=_;rw [List.getElem?_set_ne aa];exact g2,g3⟩
end
open Go
variable {ns:List zr}{ss:List jN}{tr:List xV}
theorem ya {K V:Type} [DecidableEq K](i:K)(x:V):∀l:List (K×V),zE i (put i x l)=some x
 | []=>by unfold put zE;rw [if_pos rfl]
 |(a,b)::l=>by
  unfold put
  by_cases h:i=a
  ·rw [if_pos h];subst h;unfold zE;rw [if_pos rfl]
  rw [if_neg h];unfold zE;rw [if_neg h];exact ya i x l
theorem Yr {i q b:Nat}{m:zr}(hq:yp ss)(hi:i<16)(hq2:q<4294967296)(hb:b<18446744073709551616)(hm:ns[i]?=some m)(hup:m.down=false):
 ∀(js:List Nat)(W:zf)(ld:List (Int×j8)) (l:j8) (ls:List vJ),zE (i:Int) ld=some l->l.asked=true->(∀j∈js,j<16)->
 IsW W ns ss ld (js.map (λj=>⟨4,j,i,q,b,le8 0⟩)++ls) tr->IsW (jm js.length W) ns ss ld ls tr
 | [],W,ld,l,ls,_,_,_,h=>by simpa [jm] using h
 |j::js,W,ld,l,ls,hl,ha,hj,h=>by
  have hj1:=hj j (List.mem_cons_self ..)
  have h1:IsW (vr W) ns ss ld (js.map (λj=>⟨4,j,i,q,b,le8 0⟩)++ls) tr:=by
   refine IsW.counted (l:=⟨4,j,i,q,b,le8 0⟩) (m:=m) h hq ⟨by show 4<=7;omega,hj1,hi,hq2,hb,by show(le8 0).length<=4084;decide⟩ hm hup (λV hV=>?_)
   have hr:jA V i (4:Nat) (j:Nat) (q:Nat) b (le8 0)=countPromise V i j q b (le8 0):=by
    unfold jA;rw [if_neg (by omega),if_pos (by omega)];rfl
   rw [show jA V (⟨4,j,i,q,b,le8 0⟩:vJ).dst ((⟨4,j,i,q,b,le8 0⟩:vJ).kind:Int) ((⟨4,j,i,q,b,le8 0⟩:vJ).src:Int) ((⟨4,j,i,q,b,le8 0⟩:vJ).inst:Int) b (le8 0)=_ from hr,Yp hV hl ha];exact hV
  exact Yr hq hi hq2 hb hm hup js (vr W) ld l ls hl ha (λk hk=>hj k (U7 _ hk)) h1
theorem promises {i q b:Nat}{x:List UInt8}{m:zr}(hq:yp ss)(hi:i<16)(hq2:q<4294967296)(hb:b<18446744073709551616)(hx:x.length<=4000)(hn:ns.length<=16)(hm:ns[i]?=some m)(hup:m.down=false):
 ∀(js:List Nat)(W:zf)(ld:List (Int×j8)) (l:j8) (ls:List vJ),zE (i:Int) ld=some l->l.inst=(q:Int)->l.ballot=b->l.value=x->l.asked=false->
 l.promises.length+js.length=ns.length->2*l.promises.length<=ns.length->1<=ns.length->(∀v∈l.promises,∃b,v=(b,0,[]))->(∀k∈js,l.promised[k]?.getD false=false)->js.Nodup->(∀j∈js,j<16)->ls.length+js.length+ns.length<999->
 IsW W ns ss ld (js.map (λj=>⟨4,j,i,q,b,le8 0⟩)++ls) tr->
 ∃ld' l',zE (i:Int) ld'=some l'/\l'.inst=(q:Int)/\l'.ballot=b/\l'.value=x/\l'.told=l.told/\l'.voted=l.voted/\l'.votes=l.votes/\
  IsW (jm js.length W) ns ss ld' (ls++(List.range ns.length).map (λj=>⟨5,i,j,q,b,x⟩)) tr
 | [],W,ld,l,ls,hl,h1,h2,h3,h4,h5,h6,h7,_,_,_,_,_,h=>by simp at h5;omega
 |j::js,W,ld,l,ls,hl,h1,h2,h3,h4,h5,h6,h7,hps,hpr,hnd,hj,hlen,h=>by
  have hj1:=hj j (List.mem_cons_self ..);obtain⟨hn1,hn2⟩:=List.nodup_cons.1 hnd;have hp1:=hpr j (List.mem_cons_self ..);simp only [List.length_cons] at h5 hlen;have hplen:(yx l j b).promises.length=l.promises.length+1:=by show(l.promises++ [_]).length=_;simp
  have hr:∀V,jA V i (4:Nat) (j:Nat) (q:Nat) b (le8 0)=countPromise V i j q b (le8 0):=λV=>by
   unfold jA;rw [if_neg (by omega),if_pos (by omega)];rfl
  have ac:vJ.ok 16 ⟨4,j,i,q,b,le8 0⟩:=⟨by show 4<=7;omega,hj1,hi,hq2,hb,by show(le8 0).length<=4084;decide⟩
  by_cases hmaj:2*(l.promises.length+1)<=ns.length
  ·have hs:IsW (vr W) ns ss (put (i:Int) (yx l j b) ld) (js.map (λj=>⟨4,j,i,q,b,le8 0⟩)++ls) tr:=by
    refine IsW.counted (l:=⟨4,j,i,q,b,le8 0⟩) (m:=m) h hq ac hm hup (λV hV=>?_)
    rw [show jA V (⟨4,j,i,q,b,le8 0⟩:vJ).dst ((⟨4,j,i,q,b,le8 0⟩:vJ).kind:Int) ((⟨4,j,i,q,b,le8 0⟩:vJ).src:Int) ((⟨4,j,i,q,b,le8 0⟩:vJ).inst:Int) b (le8 0)=_ from hr V,
     Yo hV hl h1 h2 hp1 h4,if_pos (by rw [hplen];exact hmaj),hV.leads]
    exact hV.setLeads _
   obtain⟨ld',l',g⟩:=promises hq hi hq2 hb hx hn hm hup js (vr W) (put (i:Int) (yx l j b) ld) (yx l j b) ls (ya _ _ _) h1 h2 h3 h4 (by rw [hplen];omega) (by rw [hplen];exact hmaj) h7
    (λv hv=>by
     rcases List.mem_append.1 (show v∈l.promises++ [(b,0,[])] from hv)with hv|hv
     ·exact hps v hv
     exact⟨b,by simpa using hv⟩)
    (λk hk=>by
     show(l.promised.set j true)[k]?.getD false=false
     rw [List.getElem?_set_ne (λe=>hn1 (by rw [e];exact hk))]
     exact hpr k (U7 _ hk)) hn2 (λk hk=>hj k (U7 _ hk)) (by omega) hs
   exact⟨ld',l',g⟩
  have aa:=zka ns.length (yx l j b).promises l.value (by rw [hplen];omega) (by rw [hplen];omega) (λv hv=>by
   rcases List.mem_append.1 (show v∈l.promises++ [(b,0,[])] from hv)with hv|hv
   ·exact hps v hv
   exact⟨b,by simpa using hv⟩) (by rw [h3];exact hx)
  have hs:IsW (vr W) ns ss (put (i:Int) {yx l j b with asked:=true,value:=x} ld) (js.map (λj=>⟨4,j,i,q,b,le8 0⟩)++(ls++(List.range ns.length).map (λj=>⟨5,i,j,q,b,x⟩))) tr:=by
   refine IsW.counted (l:=⟨4,j,i,q,b,le8 0⟩) (m:=m) h hq ac hm hup (λV hV=>?_)
   rw [show jA V (⟨4,j,i,q,b,le8 0⟩:vJ).dst ((⟨4,j,i,q,b,le8 0⟩:vJ).kind:Int) ((⟨4,j,i,q,b,le8 0⟩:vJ).src:Int) ((⟨4,j,i,q,b,le8 0⟩:vJ).inst:Int) b (le8 0)=_ from hr V,
    Yo hV hl h1 h2 hp1 h4,if_neg (by rw [hplen];exact hmaj),aa,if_neg (by simp),hV.leads,h3,← List.append_assoc]
   exact(hV.setLeads _).sendAll 5 i q b x (λk hk=>⟨by show 5<=7;omega,hi,by show k<16;omega,hq2,hb,by show x.length<=4084;omega⟩) (by show(js.map (λj=>(⟨4,j,i,q,b,le8 0⟩:vJ))++ls).length+ns.length<=1000;rw [N1,List.length_map];omega)
  have hL:=Yr hq hi hq2 hb hm hup js (vr W) _ _ _ (ya _ _ _) rfl (λk hk=>hj k (U7 _ hk)) hs;exact⟨_,{yx l j b with asked:=true,value:=x},ya _ _ _,h1,h2,rfl,rfl,rfl,rfl,hL⟩
theorem Q3 {i q b:Nat}{m:zr}(hq:yp ss)(hi:i<16)(hq2:q<4294967296)(hb:b<18446744073709551616)(hm:ns[i]?=some m)(hup:m.down=false):
 ∀(js:List Nat)(W:zf)(ld:List (Int×j8)) (l:j8) (ls:List vJ),zE (i:Int) ld=some l->l.told=true->(∀j∈js,j<16)->
 IsW W ns ss ld (js.map (λj=>⟨6,j,i,q,b,[]⟩)++ls) tr->IsW (jm js.length W) ns ss ld ls tr
 | [],W,ld,l,ls,_,_,_,h=>by simpa [jm] using h
 |j::js,W,ld,l,ls,hl,ha,hj,h=>by
  have hj1:=hj j (List.mem_cons_self ..)
  have h1:IsW (vr W) ns ss ld (js.map (λj=>⟨6,j,i,q,b,[]⟩)++ls) tr:=by
   refine IsW.counted (l:=⟨6,j,i,q,b,[]⟩) (m:=m) h hq ⟨by show 6<=7;omega,hj1,hi,hq2,hb,by simp⟩ hm hup (λV hV=>?_)
   have hr:jA V i (6:Nat) (j:Nat) (q:Nat) b []=countVote V i j q b:=by
    unfold jA;rw [if_neg (by omega),if_neg (by omega),if_pos (by omega)];rfl
   rw [show jA V (⟨6,j,i,q,b,[]⟩:vJ).dst ((⟨6,j,i,q,b,[]⟩:vJ).kind:Int) ((⟨6,j,i,q,b,[]⟩:vJ).src:Int) ((⟨6,j,i,q,b,[]⟩:vJ).inst:Int) b []=_ from hr,Xx hV hl ha];exact hV
  exact Q3 hq hi hq2 hb hm hup js (vr W) ld l ls hl ha (λk hk=>hj k (U7 _ hk)) h1
theorem ze3 {i q b:Nat}{x:List UInt8}{m:zr}(hq:yp ss)(hi:i<16)(hq2:q<4294967296)(hb:b<18446744073709551616)(hx:x.length<=4000)(hn:ns.length<=16)(hm:ns[i]?=some m)(hup:m.down=false):
 ∀(js:List Nat)(W:zf)(ld:List (Int×j8)) (l:j8) (ls:List vJ),zE (i:Int) ld=some l->l.inst=(q:Int)->l.ballot=b->l.value=x->l.told=false->
 l.votes+js.length=ns.length->2*l.votes<=ns.length->1<=ns.length->(∀k∈js,l.voted[k]?.getD false=false)->js.Nodup->(∀j∈js,j<16)->ls.length+js.length+ns.length<999->
 IsW W ns ss ld (js.map (λj=>⟨6,j,i,q,b,[]⟩)++ls) tr->
 ∃ld',IsW (jm js.length W) ns ss ld' (ls++(List.range ns.length).map (λj=>⟨7,i,j,q,b,x⟩)) tr
 | [],W,ld,l,ls,hl,h1,h2,h3,h4,h5,h6,h7,_,_,_,_,h=>by simp at h5;omega
 |j::js,W,ld,l,ls,hl,h1,h2,h3,h4,h5,h6,h7,hpr,hnd,hj,hlen,h=>by
  have hj1:=hj j (List.mem_cons_self ..);obtain⟨hn1,hn2⟩:=List.nodup_cons.1 hnd;have hp1:=hpr j (List.mem_cons_self ..);simp only [List.length_cons] at h5 hlen
  have hr:∀V,jA V i (6:Nat) (j:Nat) (q:Nat) b []=countVote V i j q b:=λV=>by
   unfold jA;rw [if_neg (by omega),if_neg (by omega),if_pos (by omega)];rfl
  have hok:vJ.ok 16 ⟨6,j,i,q,b,[]⟩:=⟨by show 6<=7;omega,hj1,hi,hq2,hb,by simp⟩
  by_cases hmaj:2*(l.votes+1)<=ns.length
  ·have hs:IsW (vr W) ns ss (put (i:Int) (Yq l j) ld) (js.map (λj=>⟨6,j,i,q,b,[]⟩)++ls) tr:=by
    refine IsW.counted (l:=⟨6,j,i,q,b,[]⟩) (m:=m) h hq hok hm hup (λV hV=>?_)
    rw [show jA V (⟨6,j,i,q,b,[]⟩:vJ).dst ((⟨6,j,i,q,b,[]⟩:vJ).kind:Int) ((⟨6,j,i,q,b,[]⟩:vJ).src:Int) ((⟨6,j,i,q,b,[]⟩:vJ).inst:Int) b []=_ from hr V,
     Q1 hV hl h1 h2 hp1 h4,if_pos (show 2*(Yq l j).votes<=ns.length from hmaj),hV.leads]
    exact hV.setLeads _
   exact ze3 hq hi hq2 hb hx hn hm hup js (vr W) (put (i:Int) (Yq l j) ld) (Yq l j) ls (ya _ _ _) h1 h2 h3 h4 (by show l.votes+1+js.length=_;omega) hmaj h7
    (λk hk=>by
     show(l.voted.set j true)[k]?.getD false=false
     rw [List.getElem?_set_ne (λe=>hn1 (by rw [e];exact hk))]
     exact hpr k (U7 _ hk)) hn2 (λk hk=>hj k (U7 _ hk)) (by omega) hs
  have hs:IsW (vr W) ns ss (put (i:Int) {Yq l j with told:=true} ld) (js.map (λj=>⟨6,j,i,q,b,[]⟩)++(ls++(List.range ns.length).map (λj=>⟨7,i,j,q,b,x⟩))) tr:=by
   refine IsW.counted (l:=⟨6,j,i,q,b,[]⟩) (m:=m) h hq hok hm hup (λV hV=>?_)
   rw [show jA V (⟨6,j,i,q,b,[]⟩:vJ).dst ((⟨6,j,i,q,b,[]⟩:vJ).kind:Int) ((⟨6,j,i,q,b,[]⟩:vJ).src:Int) ((⟨6,j,i,q,b,[]⟩:vJ).inst:Int) b []=_ from hr V,
    Q1 hV hl h1 h2 hp1 h4,if_neg (show¬2*(Yq l j).votes<=ns.length from hmaj),hV.leads,h3,← List.append_assoc]
   exact(hV.setLeads _).sendAll 7 i q b x (λk hk=>⟨by show 7<=7;omega,hi,by show k<16;omega,hq2,hb,by show x.length<=4084;omega⟩) (by show(js.map (λj=>(⟨6,j,i,q,b,[]⟩:vJ))++ls).length+ns.length<=1000;rw [N1,List.length_map];omega)
  exact⟨_,Q3 hq hi hq2 hb hm hup js (vr W) _ _ _ (ya _ _ _) rfl (λk hk=>hj k (U7 _ hk)) hs⟩
