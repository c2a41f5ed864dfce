/- PARTS OF THE PROOF. -/
import Derived.WalkSmall
import Derived.Test.YtobnhnidffipjaaGreatDoorQ03
import Derived.Test.YtobnhnidffipjaaGreatDoorQ09
import Derived.Test.YtobnhnidffipjaaGreatDoorQ13
import Derived.Test.YtobnhnidffipjaaGreatDoorQ16
set_option maxRecDepth 8000
set_option maxHeartbeats 4000000
open Go.Proofs.Tryz
namespace Go.Proofs.YtobnhnidffipjaaGreatDoor
section
open Go
theorem zfx(a b:Nat):vt (a ^^^ b)=vt a ^^^ vt b:=by
 have hd:(a ^^^ b) / 2=a / 2 ^^^ b / 2:=by
  have:=Nat.shiftRight_xor_distrib (a:=a) (b:=b) (i:=1)
  simpa [Nat.shiftRight_succ] using this
 have hm:=Nat.xor_mod_two_eq_one (a:=a) (b:=b);unfold vt;rw [hd]
 by_cases h1:a % 2=1<;>by_cases h2:b % 2=1
 ·rw [if_neg (by rw [hm];simp [h1,h2]),if_pos h1,if_pos h2]
  rw [show a / 2 ^^^ 3988292384 ^^^(b / 2 ^^^ 3988292384)=(a / 2 ^^^ b / 2)^^^(3988292384 ^^^ 3988292384)by ac_rfl,Nat.xor_self,Nat.xor_zero]
 ·rw [if_pos (by rw [hm];simp [h1,h2]),if_pos h1,if_neg h2]
  ac_rfl
 ·rw [if_pos (by rw [hm];simp [h1,h2]),if_neg h1,if_pos h2]
  ac_rfl
 ·rw [if_neg (by rw [hm];simp [h1,h2]),if_neg h1,if_neg h2]
theorem Ja:∀(n a b:Nat),j7 n (a ^^^ b)=j7 n a ^^^ j7 n b
 |0,_,_=>rfl
 |n+1,a,b=>by show j7 n (vt (a ^^^ b))=_;rw [zfx,Ja n];rfl
theorem qJ:∀(n m s:Nat),j7 (n+m) s=j7 m (j7 n s)
 |0,m,s=>by rw [Nat.zero_add];rfl
 |n+1,m,s=>by rw [Nat.succ_add];exact qJ n m (vt s)
theorem Zl:∀(n s:Nat),j7 n (2 ^ n*s)=s
 |0,s=>by show 2 ^ 0*s=s;omega
 |n+1,s=>by
  show j7 n (vt (2 ^(n+1)*s))=s
  have h:2 ^(n+1)*s=2*(2 ^ n*s):=by rw [Nat.pow_succ,Nat.mul_comm (2 ^ n) 2,Nat.mul_assoc]
  rw [h];unfold vt;rw [if_neg (by omega),show 2*(2 ^ n*s) / 2=2 ^ n*s by omega];exact Zl n s
theorem YR {s:Nat}(h:s<4294967296):vt s<4294967296:=by
 unfold vt
 split
 ·exact Nat.xor_lt_two_pow (n:=32) (by omega) (by omega)
 ·omega
theorem XS {s:Nat}(h:s<4294967296)(h0:vt s=0):s=0:=by
 unfold vt at h0
 split at h0
 ·exfalso
  have:s / 2=3988292384:=by
   have h1:=congrArg (·^^^ 3988292384) h0;rw [Nat.xor_assoc,Nat.xor_self,Nat.xor_zero,Nat.zero_xor] at h1;exact h1
  omega
 ·omega
theorem Zm:∀(n:Nat){s:Nat},s<4294967296->j7 n s=0->s=0
 |0,_,_,h=>h
 |n+1,_,h,h0=>XS h (Zm n (YR h) h0)
def XF:List UInt8->Nat
 | []=>0
 |b::l=>b.toNat+256*XF l
theorem ziN(b:UInt8)(n:Nat):b.toNat+256*n=b.toNat ^^^(256*n):=by
 have hb:=b.toNat_lt;rw [Nat.add_comm];have:=Nat.two_pow_add_eq_or_of_lt (i:=8) (b:=b.toNat) (by omega) n;rw [show(256:Nat)=2 ^ 8 from rfl,this]
 apply Nat.eq_of_testBit_eq
 intro i;rw [Nat.testBit_or,Nat.testBit_xor,Nat.testBit_two_pow_mul]
 by_cases hi:8<=i
 ·have:b.toNat.testBit i=false:=Nat.testBit_lt_two_pow (Nat.lt_of_lt_of_le hb (Nat.pow_le_pow_right (by omega) hi))
  rw [this];simp
 ·simp [hi]
theorem Vf:∀(l:List UInt8)(s:Nat),l.foldl jj s=j7 (8*l.length) (s ^^^ XF l)
 | [],s=>by show s=s ^^^ 0;rw [Nat.xor_zero]
 |b::l,s=>by
  rw [List.foldl_cons,Vf l];have h1:8*(b::l).length=8+8*l.length:=by rw [List.length_cons];omega
  rw [h1,qJ]
  congr 1
  show jj s b ^^^ XF l=j7 8 (s ^^^(b.toNat+256*XF l))
  rw [ziN,← Nat.xor_assoc,Ja,show(256:Nat)=2 ^ 8 from rfl,Zl];rfl
def Y7:List UInt8->List UInt8->List UInt8
 | [],_=>[]
 |b::l,[]=>b::l
 |b::l,c::m=>(b ^^^ c)::Y7 l m
theorem xT:∀(l m:List UInt8),(Y7 l m).length=l.length
 | [],_=>rfl
 |_::_,[]=>rfl
 |b::l,c::m=>by show(Y7 l m).length+1=_;rw [xT l m];rfl
theorem JW:∀(l m:List UInt8),(∀c∈m,c=0)->Y7 l m=l
 | [],_,_=>rfl
 |_::_,[],_=>rfl
 |b::l,c::m,h=>by
  show(b ^^^ c)::Y7 l m=b::l
  rw [h c (List.mem_cons_self ..),JW l m (λx hx=>h x (U7 _ hx))];simp
theorem zed(s t:Nat)(b c:UInt8):jj (s ^^^ t) (b ^^^ c)=jj s b ^^^ jj t c:=by
 unfold jj;rw [← Ja,UInt8.toNat_xor]
 congr 1
 ac_rfl
theorem zbv:∀(l m:List UInt8)(s t:Nat),(Y7 l m).foldl jj (s ^^^ t)=l.foldl jj s ^^^(m.take l.length++List.replicate (l.length - m.length) 0).foldl jj t
 | [],m,s,t=>by simp [Y7]
 |b::l,[],s,t=>by
  have hz:∀(l:List UInt8)(s t:Nat),l.foldl jj (s ^^^ t)=l.foldl jj s ^^^(List.replicate l.length (0:UInt8)).foldl jj t:=by
   intro l
   induction l with
   |nil=>intro s t;rfl
   |cons b l ih=>
    intro s t;rw [List.foldl_cons,List.foldl_cons,List.length_cons,List.replicate_succ,List.foldl_cons,← ih]
    congr 1
    have:=zed s t b 0
    simpa using this
  simpa [Y7] using hz (b::l) s t
 |b::l,c::m,s,t=>by
  show(Y7 l m).foldl jj (jj (s ^^^ t) (b ^^^ c))=_
  rw [zed,zbv l m];simp
theorem zbw {l b:List UInt8}(h:vG l=some b):l.foldl jj 4294967295=j7 32 4294967295:=by
 unfold vG at h
 split at h
 ·cases h
 ·rename_i hl
  split at h
  ·rename_i hs
   have hcat:l=l.take (l.length - 4)++le4 (zeI (l.take (l.length - 4))):=by rw [← hs,List.take_append_drop]
   generalize l.take (l.length - 4)=body at*
   rw [hcat,List.foldl_append];unfold zeI
   have hlt:body.foldl jj 4294967295<4294967296:=by
    have:∀(l:List UInt8)(s:Nat),s<4294967296->l.foldl jj s<4294967296:=by
     intro l
     induction l with
     |nil=>intro s h;exact h
     |cons b l ih=>
      intro s h;refine ih _ ?_
      have hb:∀(n:Nat)(s:Nat),s<4294967296->j7 n s<4294967296:=by
       intro n
       induction n with
       |zero=>intro s h;exact h
       |succ n ih=>intro s h;exact ih _ (YR h)
      exact hb 8 _ (Nat.xor_lt_two_pow (n:=32) (by omega) (by have:=b.toNat_lt;omega))
    exact this body _ (by omega)
   generalize body.foldl jj 4294967295=s at*
   rw [Vf]
   have hn:XF (le4 (4294967295 - s))=4294967295 - s:=by
    simp [le4,XF]
    omega
   rw [hn]
   have hx:s ^^^(4294967295 - s)=4294967295:=by
    apply Nat.eq_of_testBit_eq
    intro i;rw [Nat.testBit_xor];have h1:=Nat.testBit_two_pow_sub_succ (n:=32) (x:=s) (by omega) i;rw [show 2 ^ 32 - (s+1)=4294967295 - s by omega] at h1;rw [h1];have h2:=Nat.testBit_two_pow_sub_one 32 i;rw [show 2 ^ 32 - 1=4294967295 by decide] at h2;rw [h2]
    by_cases hi:i<32
    ·simp [hi]
    ·have:s.testBit i=false:=Nat.testBit_lt_two_pow (Nat.lt_of_lt_of_le (show s<2 ^ 32 by omega) (Nat.pow_le_pow_right (by omega) (by omega)))
     simp [hi,this]
   rw [hx];rfl
  ·cases h
def Y8(mask r:Nat):List UInt8:=(le4 (mask*2 ^ r))++ [UInt8.ofNat (mask*2 ^ r / 4294967296)]
def j9(s:List UInt8)(bit:Int)(mask:Nat):List UInt8×Int:=
 if bit<0∨(s.length:Int)<=bit / 8 then([],2)
 else(s.take (bit.toNat / 8)++Y7 (s.drop (bit.toNat / 8)) (Y8 mask (bit.toNat % 8)),0)
theorem Xf:∀(l:List UInt8)(k:Nat),XF (l.take k)=XF l % 256 ^ k
 | [],k=>by simp [XF]
 |b::l,0=>by simp [XF,Nat.mod_one]
 |b::l,k+1=>by
  have hb:=b.toNat_lt
  show b.toNat+256*XF (l.take k)=(b.toNat+256*XF l)% 256 ^(k+1)
  rw [Xf l k,Nat.pow_succ,Nat.mul_comm (256 ^ k) 256,Nat.mod_mul,show(b.toNat+256*XF l)% 256=b.toNat by omega,show(b.toNat+256*XF l) / 256=XF l by omega]
theorem zbx:∀(l:List UInt8),XF l=0->∀c∈l,c=0
 | [],_,c,hc=>by cases hc
 |b::l,h,c,hc=>by
  have h':b.toNat+256*XF l=0:=h
  rcases List.mem_cons.1 hc with rfl|hc
  ·exact UInt8.toNat_inj.1 (by show c.toNat=0;omega)
  ·exact zbx l (by omega) c hc
theorem zfy(k:Nat):XF (List.replicate k 0)=0:=by
 induction k with
 |zero=>rfl
 |succ k ih=>rw [List.replicate_succ];show(0:UInt8).toNat+256*XF (List.replicate k 0)=0;rw [ih];rfl
theorem JX:∀(l m:List UInt8),Y7 l (m.take l.length)=Y7 l m
 | [],_=>rfl
 |_::_,[]=>rfl
 |b::l,c::m=>by
  show(b ^^^ c)::Y7 l (m.take l.length)=_
  rw [JX l m];rfl
theorem zby(mask r:Nat)(hm:mask<4294967296)(hr:r<8):XF (Y8 mask r)=2 ^ r*mask:=by
 have h2:2 ^ r<=128:=by
  have:=Nat.pow_le_pow_right (n:=2) (by omega) (show r<=7 by omega)
  simpa using this
 have hx:mask*2 ^ r<1099511627776:=by
  calc mask*2 ^ r<=4294967295*128:=Nat.mul_le_mul (by omega) h2
   _<1099511627776:=by omega
 rw [Nat.mul_comm (2 ^ r)];unfold Y8
 generalize mask*2 ^ r=x at*
 simp [le4,XF]
 omega
theorem zkQ {s b:List UInt8}(h:vG s=some b){bit:Int}{mask:Nat}(hm:mask<4294967296)(hc:(j9 s bit mask).2=0):vG (j9 s bit mask).1=none∨(j9 s bit mask).1=s:=by
 unfold j9 at hc⊢
 split at hc
 ·simp at hc
 ·rename_i hb
  rw [if_neg hb];simp only;obtain⟨at_,hat⟩:∃a,a=bit.toNat / 8:=⟨_,rfl⟩;obtain⟨r,hr⟩:∃r,r=bit.toNat % 8:=⟨_,rfl⟩;have hr8:r<8:=by omega
  have hlt:at_<s.length:=by omega
  rw [← hat,← hr]
  cases ho:vG (s.take at_++Y7 (s.drop at_) (Y8 mask r))with
  |none=>exact .inl rfl
  |some b'=>
   refine .inr ?_;have e1:=zbw ho;have e2:=zbw h;rw [← e2] at e1;have hs:s=s.take at_++s.drop at_:=(List.take_append_drop at_ s).symm;obtain⟨d,hd⟩:∃d,d=s.drop at_:=⟨_,rfl⟩;have hdl:1<=d.length:=by rw [hd,U3];omega
   rw [← hd] at e1 hs⊢;rw [List.foldl_append] at e1
   conv at e1=>rhs;rw [hs,List.foldl_append]
   generalize(s.take at_).foldl jj 4294967295=g at e1
   have e3:=zbv d (Y8 mask r) g 0;rw [Nat.xor_zero,e1] at e3
   have e4:((Y8 mask r).take d.length++List.replicate (d.length - (Y8 mask r).length) 0).foldl jj 0=0:=by
    have h1:=congrArg (λx=>d.foldl jj g ^^^ x) e3;rw [← Nat.xor_assoc,Nat.xor_self,Nat.zero_xor] at h1;exact h1.symm
   rw [List.foldl_append,Vf,Vf,zfy,Nat.xor_zero,Nat.zero_xor,← qJ,Xf,zby mask r hm hr8,List.length_replicate,N7] at e4;have hml:(Y8 mask r).length=5:=rfl;rw [hml] at e4;obtain⟨k,hk⟩:∃k,k=min d.length 5:=⟨_,rfl⟩
   have hpow:(256:Nat)^ d.length=2 ^ r*2 ^(8*d.length - r):=by
    rw [← Nat.pow_add,show(256:Nat)=2 ^ 8 from rfl,← Nat.pow_mul]
    congr 1;omega
   rw [hpow,Nat.mul_mod_mul_left] at e4;have hrest:8*min d.length 5+8*(d.length - 5)=r+(8*min d.length 5+8*(d.length - 5) - r):=by omega
   rw [hrest,qJ,Zl] at e4;have hq:mask % 2 ^(8*d.length - r)<4294967296:=Nat.lt_of_le_of_lt (Nat.mod_le _ _) hm;have q0:=Zm _ hq e4;have hz:XF ((Y8 mask r).take d.length)=0:=by rw [Xf,zby mask r hm hr8,hpow,Nat.mul_mod_mul_left,q0,Nat.mul_zero]
   rw [← JX,JW _ _ (zbx _ hz)];exact hs.symm
structure vx where
 wire:Int
 kind:Int
 src:Int
 dst:Int
 life:Nat
 seq:Nat
 ack:Nat
 hint:Nat
 data:List UInt8
deriving DecidableEq
def JY(f:vx):Bool:=(decide (f.wire=1)||decide (f.wire=2))&& decide (0<=f.kind)&& decide (f.kind<=31)&& decide (f.data.length<=4096)&& decide (0<=f.src)&& decide (f.src<16)&& decide (0<=f.dst)&& decide (f.dst<16)&&(decide (f.wire=2)||decide (f.hint=0))
def yS(i:Int):UInt8:=UInt8.ofNat (i % 256).toNat
def ZG(f:vx):List UInt8×Int:=
 if JY f=false then([],20)
 else(qD ([72,yS f.wire,yS f.kind,yS (f.src*16+f.dst)] ++le4 f.life++le4 f.seq++le4 f.ack++(if f.wire=2 then le4 f.hint else [])++le4 f.data.length++f.data),0)
def je(b:List UInt8)(i:Nat):Nat:=yq ((b.drop i).take 4)
def y9(b:List UInt8)(i:Nat):Nat:=((b.drop i).head?.getD 0).toNat
def Jb:vx:=⟨0,0,0,0,0,0,0,0,[]⟩
def zkt(b:List UInt8):vx×Int:=
 if b.length<2∨y9 b 0≠72 then(Jb,20)
 else if y9 b 1≠1/\y9 b 1≠2 then(Jb,22)
 else if y9 b 1=1 then
  (if b.length<20 then(Jb,20)
   else if je b 16=b.length - 20/\JY ⟨1,y9 b 2,y9 b 3 / 16,y9 b 3 % 16,je b 4,je b 8,je b 12,0,b.drop 20⟩=true then(⟨1,y9 b 2,y9 b 3 / 16,y9 b 3 % 16,je b 4,je b 8,je b 12,0,b.drop 20⟩,0)
   else(Jb,20))
 else
  (if b.length<24 then(Jb,20)
   else if je b 20=b.length - 24/\JY ⟨2,y9 b 2,y9 b 3 / 16,y9 b 3 % 16,je b 4,je b 8,je b 12,je b 16,b.drop 24⟩=true then(⟨2,y9 b 2,y9 b 3 / 16,y9 b 3 % 16,je b 4,je b 8,je b 12,je b 16,b.drop 24⟩,0)
   else(Jb,20))
def zhj(s:List UInt8):vx×Int:=match vG s with|none=>(Jb,21)|some b=>zkt b
abbrev zhk:=Nat×Int×List UInt8
abbrev zb8:=Int×Int×zD
structure qv where
 inst:Int
 ballot:Nat
 value:List UInt8
 promises:List jn
 promised:List Bool
 voted:List Bool
 votes:Nat
 asked:Bool
 told:Bool
structure xU where
 greatest:Nat
 accepted:Nat
 delivered:Nat
 stale:Bool
 lent:Bool
structure zj where
 nodes:List zv
 seats:List xU
 leads:List (Int×qv)
 last:Nat
 notes:List zhk
 hurt:List (Nat×Unit)
 trace:List zb8
def zc3:xU:=⟨0,0,0,false,false⟩
def JZ(n:Nat)(v cap:Int)(s:StD):zj:={nodes:=(List.range n).map λ(i:Nat)=>zhU i v cap [] s,seats:=List.replicate n zc3,leads:=[],last:=0,notes:=[],hurt:=[],trace:=[] }
def zt(w:zj)(i:Nat):zv:=w.nodes[i]?.getD (zhU 0 0 0 [] (0,0,[]))
def jG(w:zj)(i:Nat):xU:=w.seats[i]?.getD zc3
def setNode(w:zj)(i:Nat)(n:zv):zj:={w with nodes:=w.nodes.set i n}
def setSeat(w:zj)(i:Nat)(s:xU):zj:={w with seats:=w.seats.set i s}
def ZV(w:zj)(i:Nat):zj:=setSeat w i {jG w i with stale:=true}
def vq(kind src dst:Int)(inst:Int)(ballot:Nat)(more:List UInt8):vx:=⟨1,kind,src,dst,0,0,0,0,le4 (inst % 4294967296).toNat++le8 ballot++more⟩
def yu(w:zj)(dst:Int)(s:List UInt8):zj×Nat×Int:=
 if 1000<=w.notes.length then(w,0,30)else({w with last:=(w.last+1)% 4294967296,notes:=w.notes++ [((w.last+1)% 4294967296,dst,s)] },(w.last+1)% 4294967296,0)
def xZ(w:zj)(f:vx):zj:=if(ZG f).2=0 then(yu w f.dst (ZG f).1).1 else w
def vj(w:zj)(kind src inst:Int)(ballot:Nat)(more:List UInt8):zj:=(List.range w.nodes.length).foldl (λw (i:Nat)=>xZ w (vq kind src i inst ballot more)) w
def jP(b:Nat)(node:Nat):Nat×Int:=if 16<=node∨1152921504606846976<b then(0,2)else if b / 16*16+node<=b then(b / 16*16+node+16,0)else(b / 16*16+node,0)
def yr(w:zj)(i:Nat):zj×Int:=
 if(zt w i).down then(w,170)
 else if(jP (jG w i).greatest i).2≠0 then(w,(jP (jG w i).greatest i).2)
 else
  let b:=(jP (jG w i).greatest i).1
  let l:qv:={inst:=vM (zt w i),ballot:=b,value:=(yt (zt w i)).1,promises:=[],promised:=List.replicate 16 false,voted:=List.replicate 16 false,votes:=0,asked:=false,told:=false}
  (vj {setSeat w i {jG w i with greatest:=b} with leads:=put (i:Int) l w.leads} 3 i (vM (zt w i)) b [],0)
def J0(n:Nat)(ps:List jn)(own:List UInt8):List UInt8×Int:=
 if n<ps.length∨2*ps.length<=n then([],81)
 else if ps.all ys=false∨4000<own.length then([],2)
 else((ps.foldl (λ(b:jn) v=>if b.2.1<v.2.1 then v else b) (0,0,own)).2.2,0)
def countPromise(w:zj)(i:Nat)(src:Nat)(inst:Int)(ballot:Nat)(more:List UInt8):zj:=
 match zJ (i:Int) w.leads with
 |none=>w
 |some l=>
  if l.inst≠inst∨l.ballot≠ballot∨l.asked∨l.promised[src]?.getD false∨more.length<8 then w
  else
   let l1:={l with promised:=l.promised.set src true,promises:=l.promises++ [(ballot,je more 0+4294967296*je more 4,more.drop 8)] }
   let w1:={w with leads:=put (i:Int) l1 w.leads}
   if 2*l1.promises.length<=w.nodes.length then w1
   else if(J0 w.nodes.length l1.promises l1.value).2≠0 then w1
   else vj {w with leads:=put (i:Int) {l1 with asked:=true,value:=(J0 w.nodes.length l1.promises l1.value).1} w.leads} 5 i inst ballot (J0 w.nodes.length l1.promises l1.value).1
def countVote(w:zj)(i:Nat)(src:Nat)(inst:Int)(ballot:Nat):zj:=
 match zJ (i:Int) w.leads with
 |none=>w
 |some l=>
  if l.inst≠inst∨l.ballot≠ballot∨l.told∨l.voted[src]?.getD false then w
  else
   let l1:={l with voted:=l.voted.set src true,votes:=l.votes+1}
   if 2*l1.votes<=w.nodes.length then {w with leads:=put (i:Int) l1 w.leads}
   else vj {w with leads:=put (i:Int) {l1 with told:=true} w.leads} 7 i inst ballot l1.value
def vX(w:zj)(i:Nat)(f:vx)(inst:Int)(ballot:Nat)(more:List UInt8):zj:=
 match zJ inst (zt w i).pax.known with
 |some x=>xZ w (vq 7 i f.src inst ballot x)
 |none=>
  if f.kind=5 then
   let r:=JE (zt w i) inst ballot more
   if r.2=0 then xZ (setNode w i r.1) (vq 6 i f.src inst ballot [])else setNode w i r.1
  else
   let r:=j6 (zt w i) inst ballot
   if r.2.2=0 then xZ (setNode w i r.1) (vq 4 i f.src inst ballot (le8 r.2.1.2.1++r.2.1.2.2))else setNode w i r.1
def vK(w:zj)(i:Nat)(f:vx):zj:=
 if f.data.length<12 then w
 else
  let inst:Int:=je f.data 0
  let ballot:=je f.data 4+4294967296*je f.data 8
  let more:=f.data.drop 12
  if f.kind=3∨f.kind=5 then vX w i f inst ballot more
  else if f.kind=4 then countPromise w i f.src.toNat inst ballot more
  else if f.kind=6 then countVote w i f.src.toNat inst ballot
  else if f.kind=7 then setNode (ZV w i) i (qr (zt w i) inst more).1
  else w
def Jc(w:zj)(place:Int):zj×Int:=
 if place<0 then(w,2)else match w.notes[place.toNat]? with
 |none=>(w,2)
 |some (id,dst,s)=>
  let w1:={w with notes:=w.notes.eraseIdx place.toNat,hurt:=del id w.hurt}
  if(zhj s).2=0/\(zt w1 dst.toNat).down=false then(vK w1 dst.toNat (zhj s).1,0)else(w1,0)
def J1(w:zj)(place:Int):zj×Int:=
 if place<0 then(w,2)else match w.notes[place.toNat]? with
 |none=>(w,2)
 |some (id,_,_)=>({w with notes:=w.notes.eraseIdx place.toNat,hurt:=del id w.hurt},0)
def Yw(w:zj)(place:Int):zj×Int:=
 if place<0 then(w,2)else match w.notes[place.toNat]? with
 |none=>(w,2)
 |some (id,dst,s)=>
  let r:=yu w dst s
  if r.2.2≠0 then(w,r.2.2)else if(zJ id w.hurt).isSome then({r.1 with hurt:=put r.2.1 () r.1.hurt},0)else(r.1,0)
def Jd(w:zj)(place bit:Int)(mask:Nat):zj×Int:=
 if place<0 then(w,2)else match w.notes[place.toNat]? with
 |none=>(w,2)
 |some (id,dst,s)=>
  if(zJ id w.hurt).isSome then(w,180)
  else if(j9 s bit mask).2≠0 then(w,(j9 s bit mask).2)
  else({w with notes:=w.notes.set place.toNat (id,dst,(j9 s bit mask).1),hurt:=put id () w.hurt},0)
def tellOne(w:zj)(deliver:Bool)(i:Nat):zj:=
 let s:=jG w i
 if s.stale||s.lent then
  (if deliver then {setSeat w i {s with delivered:=max s.delivered (zt w i).loc.log.length,stale:=false} with trace:=w.trace++((zt w i).loc.log.drop s.delivered).map λm=>(3,(i:Int),m)}
   else {setSeat w i {s with accepted:=max s.accepted (zt w i).acc.length} with trace:=w.trace++((zt w i).acc.drop s.accepted).map λm=>(1,(i:Int),m)})
 else w
def ZN(w:zj):zj:=(List.range w.nodes.length).foldl (λw i=>tellOne w true i) ((List.range w.nodes.length).foldl (λw i=>tellOne w false i) w)
structure OpD where
 kind:Int
 node:Int
 a:Int
 b:Int
 mask:Nat
 s:List UInt8
def yK(w:zj)(s:StD)(o:OpD):zj×Int:=
 let i:=o.node.toNat
 if o.kind=1 then(setNode (ZV w i) i (jc (zt w i) o.s).1,(jc (zt w i) o.s).2.2)
 else if o.kind=2 then yr w i
 else if o.kind=3 then Jc w o.a
 else if o.kind=4 then J1 w o.a
 else if o.kind=5 then Yw w o.a
 else if o.kind=6 then Jd w o.a o.b o.mask
 else if o.kind=7 then(setNode {w with leads:=del o.node w.leads} i (xN (zt w i)).1,(xN (zt w i)).2)
 else if o.kind=8 then(setNode w i (zcu (zt w i) o.a).1,(zcu (zt w i) o.a).2)
 else if o.kind=9 then(setNode {ZV w i with leads:=del o.node w.leads} i (yN (zt w i) s),0)
 else if o.kind=10 then(setNode w i (Z1 (zt w i) o.a).1,(Z1 (zt w i) o.a).2)
 else(w,180)
def doW(s:StD)(w:zj)(o:OpD):zj×Int:=
 if o.kind<1∨10<o.kind then(w,180)
 else if¬(3<=o.kind/\o.kind<=6)/\(o.node<0∨(w.nodes.length:Int)<=o.node)then(w,180)
 else
  let r:=yK w s o
  if o.kind=1/\r.2≠0 then({ZN r.1 with trace:=(ZN r.1).trace++ [(2,o.node,((0,0),[]))] },r.2)else(ZN r.1,r.2)
def zjj(w:zj)(i:Nat):Bool:=(yt (zt w i)).2||w.nodes.any λn=>decide (vM (zt w i)<vM n)
def qS(w:zj):Bool:=w.notes.isEmpty &&(List.range w.nodes.length).all λi=> !(zt w i).down && !zjj w i
end
section
open Go Go.RowKit
def XT(w:World)(e:TypeId)(sz:Nat)(v:Value)(n:Nat)(xs:List Value):Prop:=
 xs.length=n*sz/\((v=.slice none 0 0/\n=0)∨
  ∃g cap cur,v=.slice (some ⟨g,0,none⟩) n cap/\w.heap[g]?=some (.cells cur e (0,0))/\n<=cap/\cap<=maxLen/\cap*sz<=cur.size/\cur.toList.take (n*sz)=xs)
theorem Row.wideV {w:World}{e:TypeId}{sz:Nat}{v:Value}{n:Nat}{xs:List Value}(h:Row w e sz v n xs):XT w e sz v n xs:=by
 refine⟨h.1,?_⟩
 rcases h.2 with h|⟨g,cap,cur,rfl, -,hg,hc,hm,hs,ht⟩
 ·exact .inl h
 ·exact .inr ⟨g,cap,cur,rfl,hg,hc,hm,by omega,by simpa using ht⟩
section
variable {w w':World}{e:TypeId}{sz:Nat}{v:Value}{n:Nat}{xs:List Value}
theorem XT.lt(h:XT w e sz v n xs){g:Nat}(hg:v.ownBlock=some g):g<w.heap.size:=by
 rcases h.2 with⟨rfl,_⟩|⟨g',cap,cur,rfl,hgg,_⟩
 ·cases hg
 ·cases hg;exact(N5.1 hgg).1
theorem XT.kept(h:XT w e sz v n xs)(hb:∀g,v.ownBlock=some g->w'.heap[g]?=w.heap[g]?):XT w' e sz v n xs:=by
 refine⟨h.1,?_⟩
 rcases h.2 with h2|⟨g,cap,cur,rfl,hg,r⟩
 ·exact .inl h2
 ·exact .inr ⟨g,cap,cur,rfl,(hb g rfl).trans hg,r⟩
theorem XT.type(h:XT w e sz v n xs){g:Nat}(hg:v.ownBlock=some g):∃cur,w.heap[g]?=some (.cells cur e (0,0)):=by
 rcases h.2 with⟨rfl,_⟩|⟨g',cap,cur,rfl,hgg,_⟩
 ·cases hg
 ·cases hg;exact⟨cur,hgg⟩
theorem XT.ne_blk(h:XT w e sz v n xs){B:Nat}{cs:Array Value}{T:TypeId}(hB:Blk w B cs T)(hT:e≠T){g:Nat}(hg:v.ownBlock=some g):g≠B:=by
 rintro rfl;obtain⟨cur,hc⟩:=h.type hg;have:=hc.symm.trans hB;simp at this
 exact hT this.2
theorem XT.shape(h:XT w e sz v n xs):∃a c,v=.slice a n c:=by
 rcases h.2 with⟨rfl,rfl⟩|⟨g,cap,cur,rfl,_⟩
 ·exact⟨_,_,rfl⟩
 ·exact⟨_,_,rfl⟩
theorem XT.src(h:XT w e sz v n xs):Src w v sz n xs:=by
 refine⟨h.1,?_⟩
 rcases h.2 with h0|⟨g,cap,cur,rfl,hg,hc,_,hs,ht⟩
 ·exact .inl h0
 ·refine .inr ⟨g,0,cap,rfl,hc,λj u hu=>?_⟩
  have hj:=(N6.1 hu).1;rw [h.1] at hj;have hB:Blk w g cur e:=hg;rw [Nat.zero_add,hB.cell,← hu,← ht,List.getElem?_take,if_pos hj];simp
end
theorem XT.clip {w:World}{e:TypeId}{sz:Nat}{a:Option Addr}{n c:Nat}{xs:List Value}(h:XT w e sz (.slice a n c) n xs)(k:Nat)(hk:k<=n)(ha:a≠none):XT w e sz (.slice a k k) k (xs.take (k*sz)):=by
 have hm:=Nat.mul_le_mul_right sz hk
 rcases h.2 with⟨h0,h1⟩|⟨g,cap,cur,hv,hg,hc,hmx,hs,ht⟩
 ·simp at h0;exact absurd h0.1 ha
 ·cases hv
  have hm2:=Nat.mul_le_mul_right sz hc;refine⟨by rw [N7,h.1];omega,.inr ⟨g,k,cur,rfl,hg,N0 _,by omega,by omega,?_⟩⟩;rw [← ht,List.take_take,Nat.min_eq_left hm]
theorem Xg {P:Program}{t e:TypeId}{size bytes:Nat}{z:Value}(T:Ju P t e size bytes z){w:World}{v src:Value}{n m:Nat}{xs news:List Value}
 (hv:XT w e size v n xs) (hs:Src w src size m news) (h1:∀u∈news,u.oneCell'=true) (hb:n+m<=1073741824) (ty:TypeId):
 ∃v' w',(Builtin.append_ #[t,t] ty #[v,src]).run P w=.ok v' w'/\XT w' e size v' (n+m) (xs++news)/\w.grownBy w' v.ownBlock/\(v'.ownBlock=v.ownBlock∨v'.ownBlock=some w.heap.size):=by
 obtain⟨i,hi,hz0,hz1,hz2⟩:=info_parts T.info
 have hbytes:(n+m)*bytes<=140737488355328:=by
  have:=Nat.mul_le_mul hb T.small;omega
 rcases hv.2 with⟨rfl,rfl⟩|⟨g,cap,cur,rfl,hg,hnc,hcm,hcs,htake⟩
 ·have hx:xs=[]:=N9 (by simpa using hv.1)
  subst hx;obtain⟨v',w',h2,h3,h4,h5⟩:=zI T (zX w e size) hs h1 hb ty;exact⟨v',w',h2,h3.wideV,h4,h5⟩
 ·rcases hs.2 with⟨rfl,rfl⟩|⟨b,off,sc,rfl,_,hr⟩
  ·have hn:news=[]:=N9 (by simpa using hs.1)
   subst hn;refine⟨.slice (some ⟨g,0,none⟩) n cap,w,?_,by simpa using hv,⟨rfl,rfl,rfl,N0 _,λ_ _ _=>rfl⟩,.inl rfl⟩;simp [Builtin.append_,run_underlying T.under,sizeOf,typeInfo,hi,Builtin.lenOf,Builtin.firstCells,loadCells,hnc,storeCells]
  ·have hadd:∀j,(⟨b,off,none⟩:Addr).add j=⟨b,off+j,none⟩:=λj=>by unfold Addr.add;split<;>simp_all
   have hl:news.length=m*size:=hs.1;have hlen:(xs++news).length=(n+m)*size:=by rw [N1,hv.1,hl,Nat.add_mul]
   have hcells:∀j u,news[j]?=some u->w.cell? ((⟨b,off,none⟩:Addr).add j)=some u:=λj u hu=>by rw [hadd];exact hr j u hu
   by_cases hroom:n+m<=cap
   ·have hmm:=Nat.mul_le_mul_right size hroom
    rw [Nat.add_mul] at hmm;have hfit:n*i.size+news.length<=cur.size:=by rw [hz1,hl];omega
    have hrun:=run_append_room (P:=P) w t ty e i T.under hi g n cap cur hg ⟨b,off,none⟩ m sc news (by rw [hz1];exact hl) hcells h1 hroom hfit;refine⟨_,_,hrun,⟨hlen,.inr ⟨g,cap,_,rfl,setRow_heap w g cur _ e _ hg,hroom,hcm,?_,?_⟩⟩,⟨rfl,rfl,rfl,by simp,λk _ hk=>setRow_other w g k _ (λe=>hk (by simp [Value.ownBlock,e]))⟩,.inl rfl⟩
    ·simp only [List.size_toArray,N1,N7,U3,Array.length_toList,hz1]
     omega
    ·rw [hz1,htake,← hlen]
     exact List.take_left
   ·have holds:∀j u,xs[j]?=some u->w.cell? ((⟨g,0,none⟩:Addr).add j)=some u:=λj u hu=>by
     have hj:=(N6.1 hu).1;rw [hv.1] at hj;have hB:Blk w g cur e:=hg;have ha:(⟨g,0,none⟩:Addr).add j=⟨g,0+j,none⟩:=by unfold Addr.add;split<;>simp_all
     rw [ha,Nat.zero_add,hB.cell,← hu,← htake,List.getElem?_take,if_pos hj];simp
    have hrun:=run_append_grow (P:=P) w t ty e i z T.under hi hz0 ⟨g,0,none⟩ n cap xs (by rw [hz1];exact hv.1) holds ⟨b,off,none⟩ m sc news (by rw [hz1];exact hl) hcells (by omega) (by omega) (growslice_fits (by omega) (by rw [hz2];omega));have hge:=grownCap_ge w (n+m) cap e;have hcm2:grownCap w (n+m) cap e<=maxLen:=grownCap_le_maxLen w (n+m) cap e (by unfold maxLen;omega);refine⟨_,_,hrun,⟨hlen,.inr ⟨w.heap.size,_,_,rfl,heap_alloc_new w.drew _,hge,hcm2,?_,?_⟩⟩,⟨rfl,rfl,rfl,by simp,λk hk _=>((N2 w.drew.heap.size w.drew).alloc (N0 _) _).block k hk⟩,.inr rfl⟩
    ·have hmg:=Nat.mul_le_mul_right size hge
     rw [Nat.add_mul] at hmg;simp only [Array.size_append,List.size_toArray,size_zeroCells,T.cells,hl,hv.1];rw [Nat.sub_mul,Nat.add_mul];omega
    ·simp only [Array.toList_append,List.append_assoc]
     rw [← List.append_assoc,← hlen];exact List.take_left
end
section
open Go Go.RowKit
theorem zhl(w:World)(e:TypeId)(size:Nat):Row (w.alloc (.cells #[] e)) e size (.slice (some ⟨w.heap.size,0,none⟩) 0 0) 0 []:=
 ⟨by simp,.inr ⟨w.heap.size,0,#[],rfl,Nat.zero_le _,World.alloc_heap_new w _,N0 _,Nat.zero_le _,by simp,by simp⟩⟩
def zT(x:(Nat×Int×List UInt8)):List Value:=[.int .u32 x.1,.int .i64 x.2.1,.string (bs x.2.2)]
theorem yg(l:List (Nat×Int×List UInt8)):(l.flatMap zT).length=l.length*3:=by
 induction l with
 |nil=>rfl
 |cons m l ih=>simp [List.flatMap_cons,zT,ih];omega
def jk(B:Nat)(last:Nat)(notes:List (Nat×Int×List UInt8))(t:List Nat)(ow:Own)(W:World):Prop:=
 ∃v,Blk W B #[.int .u32 last,v] 110/\XT W 106 3 v notes.length (notes.flatMap zT)/\ow B=t/\∀g,v.ownBlock=some g->ow g=t
theorem jk.loc(B last:Nat)(notes:List (Nat×Int×List UInt8))(t:List Nat):yH t (jk B last notes t):=by
 rintro ow ow' W W'⟨lv,hB,hR,o1,o2⟩ hs hk;have kB:=hk B hB.lt (by rw [o1];exact Sub.rfl' t);have kR:∀g,lv.ownBlock=some g->ow' g=ow g/\W'.heap[g]?=W.heap[g]?:=λg hg=>hk g (hR.lt hg) (by rw [o2 g hg];exact Sub.rfl' t)
 exact⟨lv,hB.kept kB.2,hR.kept (λg hg=>(kR g hg).2),kB.1.trans o1,λg hg=>(kR g hg).1.trans (o2 g hg)⟩
def vY(B last:Nat)(notes:List (Nat×Int×List UInt8))(t:List Nat)(ow:Own)(w:World)(v:Value)(e:Ending)(w':World):Prop:=
 e=.returned v/\∃ow',zq t ow w ow' w'/\jk B last notes t ow' w'
end
open Go Go.RowKit Go.Shelf Go.Extern.Stop Go.Stop Go.Extern
attribute [local go_sem] Oper.semAt_some zw zn
theorem zjS:Ju prog 73 106 3 32 (.agg #[.int .u32 0,.int .i64 0,.string ⟨#[]⟩]):=⟨Tryz.underlying73,by kernel_rfl,rfl,by decide,by decide⟩
theorem qK(l:List (Nat×Int×List UInt8)):∀u∈l.flatMap zT,u.oneCell'=true:=by
 intro u hu;obtain⟨m,_,hm⟩:=List.mem_flatMap.1 hu;simp only [zT,List.mem_cons,List.mem_nil_iff,or_false] at hm
 rcases hm with rfl|rfl|rfl<;>rfl
theorem zbz(w:World):Calls prog 31 #[] w λe w'=>e=.returned (.pointer (some ⟨w.heap.size,0,none⟩))/\w'=w.alloc (.cells #[.int .u32 0,.slice none 0 0] 110):=by
 go_enter func31,ntmps31
 go_wp2;go_ret
 exact⟨rfl,rfl⟩
theorem zad(fb last n c:Nat)(a:Option Addr)(p:Int)(w:World)(hB:Blk w fb #[.int .u32 last,.slice a n c] 110):Calls prog 117 #[.pointer (some ⟨fb,0,none⟩),.int .i64 p] w λe w'=>
 e=.returned (.bool (decide (0<=p)&& decide (p<(n:Int))))/\w'=w:=by
 have e0:=hB.cell
 cases h0:decide (0<=p)
 ·go_enter func117,ntmps117
  go_wp2;go_ret
  exact⟨rfl,rfl⟩
 ·cases h1:decide (p<(n:Int))
  ·go_enter func117,ntmps117
   go_wp2;go_ret
   exact⟨rfl,rfl⟩
  ·go_enter func117,ntmps117
   go_wp2;go_ret
   exact⟨rfl,rfl⟩
theorem zfz(fb last:Nat)(v:Value)(hl:last<4294967295)(w:World)(hB:Blk w fb #[.int .u32 last,v] 110):Calls prog 170 #[.pointer (some ⟨fb,0,none⟩)] w λe w'=>
 e=.returned (.int .u32 (last+1:Nat))/\w'=w.setCell ⟨fb,0,none⟩ (.int .u32 (last+1:Nat)):=by
 have e0:=hB.cell;have f0:=hB.frozen;have l0:=hB.lt;have hw:IntKind.u32.wrap ((last:Int)+1)=((last+1:Nat):Int):=by rw [IntKind.wrap_u32];omega
 have r0:=(hB.set (o:=0) (.int .u32 (last+1:Nat))).cell
 go_enter func170,ntmps170
 go_wp2;go_ret
 exact⟨rfl,rfl⟩
theorem zhm(B last:Nat)(notes:List (Nat×Int×List UInt8))(t:List Nat)(ow:Own)(src:Value)(l:List (Nat×Int×List UInt8))(w:World)(h:jk B last notes t ow w)(hm:Src w src 3 l.length (l.flatMap zT))(hl:notes.length+l.length<=1073741824):
 Calls prog 171 #[.pointer (some ⟨B,0,none⟩),src] w (vY B last (notes++l) t ow w (.tuple #[])):=by
 obtain⟨lv,hB,hR,o1,o2⟩:=h;have e0:=hB.cell;have l0:=hB.lt
 obtain⟨ma,mm,mc,rfl⟩:∃a n c,src=.slice a n c:=by
  rcases hm.2 with⟨h, -⟩|⟨b,off,cap,h, -⟩<;>exact⟨_,_,_,h⟩
 obtain⟨ha,hc,rfl⟩:=hR.shape;obtain⟨lv',W3,hrun,hrow,hgr,hown⟩:=Xg zjS hR hm (qK l) hl 73;have hneB:(Value.slice ha notes.length hc).ownBlock≠some B:=λe=>(hR.ne_blk hB (by decide) e) rfl
 have k3:=hB.kept (hgr.block B hB.lt (λe=>hneB e.symm));have f3:=k3.frozen;have l3:=k3.lt;have c3:=k3.cell;obtain⟨sa,sc,rfl⟩:=hrow.shape;clear hm;replace hB:=G hB;replace hR:=G hR;replace hrow:=G hrow;replace k3:=G k3;replace o2:=G o2;replace hown:=G hown;replace hneB:=G hneB
 go_enter func171,ntmps171
 go_wp2_with (at_builtin
              refine zu rfl _ _ _ rfl rfl rfl hrun ?_)
 go_end0
 have hg5:∀g,(Value.slice sa (notes.length+l.length) sc).ownBlock=some g->((Value.slice ha notes.length hc).ownBlock=some g∨g=w.heap.size):=λg hg=>by
  have:=hown.out;rw [hg] at this
  rcases this with h|h
  ·exact .inl h.symm
  ·right;simpa using h
 refine⟨rfl,ow.ext w.heap.size (λk=>(Value.slice sa (notes.length+l.length) sc).ownBlock=some k) t,⟨?_,λk hk=>Own.ext_old hk⟩,.slice sa (notes.length+l.length) sc,k3.out.set (o:=1) _,?_,?_,?_⟩
 ·exact(Mod.grown (X:=λk=>Sub t (ow k)) hgr (λk h=>by rw [o2.out k h];exact Sub.rfl' t)).thenSet (p:=⟨B,1,none⟩) (by simp only [o1];exact Sub.rfl' t) _
 ·simp only [N1,U5]
  refine hrow.out.kept (λg hg=>N4 _ _ _ _ (λe=>?_));have e':g=B:=e;subst e'
  rcases hg5 g hg with h|h
  ·exact hneB.out h
  ·omega
 ·rw [Own.ext_old l0,o1]
 ·intro g hg
  rcases hg5 g hg with h|h
  ·rw [Own.ext_old (hR.out.lt h),o2.out g h]
  ·rw [Own.ext_new (by omega) hg]
theorem zbA {B last last':Nat}{notes:List (Nat×Int×List UInt8)}{t:List Nat}{ow:Own}{W:World}(h:jk B last notes t ow W):zq t ow W ow (W.setCell ⟨B,0,none⟩ (.int .u32 last'))/\jk B last' notes t ow (W.setCell ⟨B,0,none⟩ (.int .u32 last')):=by
 obtain⟨lv,hB,hR,o1,o2⟩:=h;refine⟨zq.setCell W ⟨B,0,none⟩ _ (by rw [o1];exact Sub.rfl' t),lv,hB.set (o:=0) _,hR.kept (λg hg=>N4 _ _ _ _ (λe=>?_)),o1,o2⟩;exact hR.ne_blk hB (by decide) hg e
def jQ(last:Nat)(notes:List (Nat×Int×List UInt8))(d:Int)(s:List UInt8):Nat×List (Nat×Int×List UInt8)×Nat×Int:=if 1000<=notes.length then(last,notes,0,30)else(last+1,notes++ [(last+1,d,s)],last+1,0)
theorem YS(B last:Nat)(notes:List (Nat×Int×List UInt8))(hlast:last<4294967295)(t:List Nat)(ow:Own)(d:Int)(s:List UInt8)(w:World)(h:jk B last notes t ow w)(hn:notes.length<=1000):
 Calls prog 126 #[.pointer (some ⟨B,0,none⟩),.int .i64 d,.string (bs s)] w (vY B (jQ last notes d s).1 (jQ last notes d s).2.1 t ow w (.tuple #[.int .u32 ((jQ last notes d s).2.2.1:Nat),.int .i64 (jQ last notes d s).2.2.2])):=by
 have h0:=h;have hcnt:=zbA (last':=last+1) h;obtain⟨lv,hB,hR,o1,o2⟩:=h;have e0:=hB.cell;obtain⟨ha,hc,rfl⟩:=hR.shape;have hnx:=zfz B last _ hlast w hB;unfold jQ
 by_cases hf:1000<=notes.length
 ·have t1:decide ((1000:Int)<=(notes.length:Int))=true:=by simp;omega
  rw [if_pos hf];replace h0:=G h0;clear hcnt hB hR
  go_enter func126,ntmps126
  go_wp2;go_ret2
  exact⟨rfl,ow,zq.refl _ _ _,h0.out⟩
 ·have t1:decide ((1000:Int)<=(notes.length:Int))=false:=by simp;omega
  rw [if_neg hf];obtain⟨W1,hW1⟩:∃W1,W1=w.setCell ⟨B,0,none⟩ (.int .u32 (last+1:Nat)):=⟨_,rfl⟩;rw [← hW1] at hcnt hnx;have hlay:=λW hb hs=>zhm B (last+1) notes t ow (.slice (some ⟨W1.heap.size,0,none⟩) 1 1) [(last+1,d,s)] W ((jk.loc B (last+1) notes t).below hcnt.2 hb) hs (by simp;omega)
  replace hlay:=G hlay;replace hcnt:=G hcnt;replace hnx:=G hnx;clear h0 hB hR
  go_enter func126,ntmps126
  go_wp2_with fail
  refine hnx.out.mono ?_;rintro e w1⟨rfl,rfl⟩;clear hW1 e0;go_wp2_with fail
  refine(hlay.out (w1.alloc (.cells #[.int .u32 (last+1:Nat),.int .i64 d,.string (bs s)] 106)) (pbx) (jB (n:=1) (size:=3) (cap:=1) (Blk.new rfl) rfl (N0 1))).mono ?_;rintro e w2⟨rfl,ow2,hs2,hF⟩;go_wp2;go_ret2
  exact⟨rfl,ow2,(hcnt.out.1.trans (zq.of_below t ow (pbx))).trans hs2,hF⟩
theorem zfA(B last:Nat)(notes:List (Nat×Int×List UInt8))(hlast:last<4294967295)(t:List Nat)(ow:Own)(d:Int)(hd0:0<=d)(hd:d<16)(s:List UInt8)(w:World)(h:jk B last notes t ow w)(hn:notes.length<=1000):
 Calls prog 155 #[.pointer (some ⟨B,0,none⟩),.int .i64 d,.string (bs s)] w (vY B (jQ last notes d s).1 (jQ last notes d s).2.1 t ow w (.tuple #[.int .u32 ((jQ last notes d s).2.2.1:Nat),.int .i64 (jQ last notes d s).2.2.2])):=by
 have hl:=YS B last notes hlast t ow d s w h hn;have t1:decide (d<0)=false:=by simp;omega
 have t2:decide ((16:Int)<=d)=false:=by simp;omega
 generalize jQ last notes d s=q at*
 obtain⟨q1,q2,q3,q4⟩:=q;simp only at hl⊢;replace hl:=G hl;clear h
 go_enter func155,ntmps155
 go_wp2_with fail
 refine hl.out.mono ?_;rintro e w1⟨rfl,ow1,hs,hF⟩;go_wp2;go_ret2
 exact⟨rfl,ow1,hs,hF⟩
