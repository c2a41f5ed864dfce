/- PARTS OF THE PROOF. -/
import Derived.Lib.ConvBytes
import Derived.Deep.Slices
import Derived.Deep.Fields
import Derived.ChangeSame
import Derived.Lib.SmallJoins
import Derived.Test.YtobnhnidffipjaaGreatDoorQ01
import Derived.Test.YtobnhnidffipjaaGreatDoorQ03
import Derived.Test.YtobnhnidffipjaaGreatDoorQ04
import Derived.Test.YtobnhnidffipjaaGreatDoorQ06
import Derived.Test.YtobnhnidffipjaaGreatDoorQ07
import Derived.Test.YtobnhnidffipjaaGreatDoorQ09
import Derived.Test.YtobnhnidffipjaaGreatDoorQ11
import Derived.Test.YtobnhnidffipjaaGreatDoorQ13
set_option maxRecDepth 8000
set_option maxHeartbeats 4000000
open Go.Proofs.Tryz
namespace Go.Proofs.YtobnhnidffipjaaGreatDoor
section
open Go Go.RowKit Go.Shelf Go.Extern.Stop Go.Stop Go.Extern
attribute [local go_sem] Oper.semAt_some zw zn
theorem vU(s:List UInt8):(jm s).2=0∨(9<=(jm s).2/\(jm s).2<=s.length):=by
 unfold jm
 split
 ·exact .inl rfl
 ·split
  ·exact .inl rfl
  ·split
   ·exact .inl rfl
   ·split
    ·exact .inl rfl
    ·split
     ·exact .inl rfl
     ·right;simp only;omega
theorem zcz(s:List UInt8):(jm s).1.length<=s.length:=by
 unfold jm
 split
 ·simp
 ·split
  ·simp
  ·split
   ·simp
   ·split
    ·simp
    ·rename_i h9 _ _ h
     split
     ·simp
     ·rename_i b hb
      have:b.length<=s.length:=by
       unfold vG at hb
       split at hb
       ·cases hb
       ·split at hb
        ·cases hb;simp only [N7];omega
        ·cases hb
      simp only [U3];omega
def zjd(v:Value):Nat:=match v with| .string b=>b.size|_=>0
def zdY(x:List UInt8×Nat):Array Value:=#[.string (bs x.1),.int .i64 (x.2:Nat)]
theorem zcA(cb:Nat)(s:List UInt8)(hl:s.length<=1073741824):
 XE Fence.wide 2 prog 213 #[.pointer (some ⟨cb,0,none⟩)] zdY
  (λ(r:List UInt8×Bool) x=>r.2=false/\x=jm r.1/\r.1.length<=s.length) (λr x=>(r.1.drop x.2,decide (x.2=0))) (λr=>r.2=true)
  (λ_ W=>Blk W cb #[.string (bs s)] 9) (s,false):=by
 intro lp J Jx W hJ hJx hRd hY h0;have e0:=(hRd _ _ _ h0).cell;have hF:Fence.wide.fn 213:=trivial;have hro:Fence.wide.round=none:=rfl;refine callsIn_of_wp func213 rfl hF ?_ hro;simp only [ntmps213,R8,Nat.reduceAdd,Nat.reduceSub]
 gi_wp2
 gi_loopw [3] (λp3 wr=>∃(r:List UInt8)(X:Nat->Prop),p3=.string (bs r)/\r.length<=s.length/\J (r,false) X wr) (λp3 _=>zjd p3)
 case atStart=>exact⟨s,_,rfl,N0 _,h0⟩
 case round=>
  obtain⟨r,X,rfl,hr,hJs⟩:=hrel;clear e0;have hsz:=zC r;have hfs:=vU r;have hfd:=zcz r;obtain⟨⟨d,n⟩,hf⟩:∃x,jm r=x:=⟨_,rfl⟩;rw [hf] at hfs hfd;simp only at hfs hfd;have hcall:=λW=>zgN r (by omega) W
  rw [hf] at hcall;unfold zdX at hcall;simp only at hcall;replace hcall:=G hcall
  gi_wp2_with fail
  refine(callsIn_wide.2 (hcall.out _)).mono ?_;rintro e w1⟨rfl,hb1⟩;have hJ1:J (r,false) X w1:=hJ _ _ _ _ _ hJs (Mod.of_below X hb1) (λk h=>.inl h);obtain⟨fn,tmps,assign,body,hy,hR⟩:=hY (r,false) (d,n) X w1 hJ1 ⟨rfl,hf.symm,hr⟩;unfold zdY at hy;simp only at hy;replace hf:=G hf
  by_cases hn:n=0
  ·subst hn
   have t0:((0:Int)==0)=true:=rfl;rw [show((0:Nat):Int)=0 from rfl] at hy;replace hsz:=G hsz
   gi_wp2
   refine hR.mono ?_;rintro e W'(⟨rfl,hJ', -⟩|⟨rfl,hx'⟩)
   ·clear hR hy
    gi_wp2
    refine bodyPost_ret (results_none rfl _ _ _) rfl ?_;exact⟨⟨_,rfl⟩,.inl ⟨_,_,rfl,hJ'⟩⟩
   ·gi_wp2
    refine bodyPost_ret (results_none rfl _ _ _) rfl ?_;exact⟨⟨_,rfl⟩,.inr ⟨_,hx'⟩⟩
  ·have t0:((n:Int)==0)=false:=by simpa using hn
   have hn9:9<=n/\n<=r.length:=by omega
   have y1:(n:Int)<=((bs r).size:Int):=by omega
   have hx:=z8 r n;replace hsz:=G hsz
   gi_wp2
   refine hR.mono ?_;rintro e W'(⟨rfl,hJ', -⟩|⟨rfl,hx'⟩)
   ·clear hR hy
    gi_wp2
    go_roundw
    case rel=>exact⟨r.drop n,_,rfl,by simp;omega,by simpa [hn] using hJ'⟩
    case measure=>simp [zjd,zC];omega
   ·gi_wp2
    refine bodyPost_ret (results_none rfl _ _ _) rfl ?_;exact⟨⟨_,rfl⟩,.inr ⟨_,hx'⟩⟩
theorem zgO(b:Nat)(x y z:List UInt8)(w:World)(h0:w.cell? ⟨b,0,none⟩=some (.string (bs x)))(h1:w.cell? ⟨b,1,none⟩=some (.string (bs y)))(h2:w.cell? ⟨b,2,none⟩=some (.string (bs z)))
 (hl:x.length+y.length+z.length<=1073741824):Calls prog 240 #[.slice (some ⟨b,0,none⟩) 3 3] w λe w'=>e=.returned (.string (bs (x++(y++z))))/\w'=w:=by
 have hsrc:Src w (.slice (some ⟨b,0,none⟩) 3 3) 1 [x,y,z].length (yB [x,y,z]):=by
  refine⟨rfl,.inr ⟨b,0,3,rfl,N0 _,λj u hu=>?_⟩⟩
  match j,hu with
  |0,hu=>cases hu;exact h0
  |1,hu=>cases hu;exact h1
  |2,hu=>cases hu;exact h2
 refine(zeN _ [x,y,z] w hsrc (by simp) (by simp) (by simp [QL];omega)).mono ?_;rintro e w'⟨rfl,rfl⟩;exact⟨by simp,rfl⟩
theorem zdZ(k:UInt8)(W:World)(b:Nat)(h:W.cell? ⟨b,0,none⟩=some (.int .u8 (k.toNat:Int))):(convert 130 9 (.slice (some ⟨b,0,none⟩) 1 1)).run prog W=.ok (.string (bs [k])) W:=by
 rw [run_convert_bytes_arg W 130 5 Tryz.underlying130 Tryz.underlying5 b 0 1 1 [(k.toNat:Int)] rfl (λi hi=>by obtain rfl:i=0:=(by omega);exact h) 9 Tryz.underlying9];have:strOfNums [(k.toNat:Int)]=bs [k]:=by unfold strOfNums bs;simp
 rw [this]
def zcB(r:List UInt8×Int):Value:=.tuple #[.string (bs r.1),.int .i64 r.2]
theorem zeP(d:List UInt8)(hl:d.length<=1073741000)(w:World):Calls prog 192 #[.string (bs d)] w λe w'=>e=.returned (zcB (zZ d))/\Below w.heap.size w w':=by
 have hsz:=zC d
 by_cases h:4096<d.length
 ·have hr:zZ d=([],30):=by unfold zZ;rw [if_pos h]
  rw [hr];have t0:decide ((4096:Int)<((bs d).size:Int))=true:=by rw [hsz];simp;omega
  replace hsz:=G hsz;replace hr:=G hr
  go_enter func192,ntmps192
  go_wp2;go_ret2
  exact⟨rfl,N2 _ _⟩
 ·have hr:zZ d=(qD ([52] ++(le4 d.length++d)),0):=by unfold zZ;rw [if_neg h,List.append_assoc]
  rw [hr];have t0:decide ((4096:Int)<((bs d).size:Int))=false:=by rw [hsz];simp;omega
  have hwr:IntKind.u32.wrap ((bs d).size:Int)=((d.length:Nat):Int):=by rw [IntKind.wrap_u32,hsz];omega
  have hseal:=λW=>zdU ([52] ++(le4 d.length++d)) (by simp [jb];omega) W
  have hjl:([52]:List UInt8).length+(le4 d.length).length+d.length<=1073741824:=by simp [jb];omega
  have hcv:∀(W:World)(b:Nat),W.cell? ⟨b,0,none⟩=some (.int .u8 52)->(convert 130 9 (.slice (some ⟨b,0,none⟩) 1 1)).run prog W=.ok (.string (bs [52])) W:=zdZ 52;unfold zcB;replace hsz:=G hsz;replace hr:=G hr;replace hseal:=G hseal
  go_enter func192,ntmps192
  go_wp2_with fail
  go_region_with (first
   |(go_at_call 109;(with_reducible refine(yF _ _).mono ?_);rintro e w1 ⟨rfl,hb⟩;have hz:=hb.size;obtain⟨hcA,hfA⟩:=zaB hb)
   |(go_at_call 240;(with_reducible refine(zgO _ [52] (le4 d.length) d _ (by simp) (by simp) (by simp) hjl).mono ?_);rintro e w2 ⟨rfl,rfl⟩)
   |(go_at_call 197;refine(hseal.out _).mono ?_;rintro e w3 ⟨rfl,hb3⟩))
  all_goals go_wp2
  all_goals go_ret2
  all_goals exact⟨rfl,pbx⟩
end
section
open Go Go.RowKit
def VH(w:World)(e:TypeId)(v:Value)(n:Nat)(xs:List Value):Prop:=
 xs.length=n/\((v=.slice none 0 0/\n=0)∨
  ∃g cap cur,v=.slice (some ⟨g,0,none⟩) n cap/\w.heap[g]?=some (.cells cur e (0,0))/\n<=cap/\cap<=maxLen/\cap<=cur.size/\cur.toList.take n=xs)
theorem zd0(w:World)(e:TypeId):VH w e (.slice none 0 0) 0 []:=⟨rfl,.inl ⟨rfl,rfl⟩⟩
theorem Row.wide {w:World}{e:TypeId}{v:Value}{n:Nat}{xs:List Value}(h:Row w e 1 v n xs):VH w e v n xs:=by
 refine⟨by simpa using h.1,?_⟩
 rcases h.2 with h|⟨g,cap,cur,rfl, -,hg,hc,hm,hs,ht⟩
 ·exact .inl h
 ·exact .inr ⟨g,cap,cur,rfl,hg,hc,hm,by omega,by simpa using ht⟩
theorem VH.lt {w:World}{e:TypeId}{v:Value}{n:Nat}{xs:List Value}(h:VH w e v n xs){g:Nat}(hg:v.ownBlock=some g):g<w.heap.size:=by
 rcases h.2 with⟨rfl,_⟩|⟨g',cap,cur,rfl,hgg,_⟩
 ·cases hg
 ·cases hg;exact(N5.1 hgg).1
theorem VH.kept {w w':World}{e:TypeId}{v:Value}{n:Nat}{xs:List Value}(h:VH w e v n xs)(hb:∀g,v.ownBlock=some g->w'.heap[g]?=w.heap[g]?):VH w' e v n xs:=by
 refine⟨h.1,?_⟩
 rcases h.2 with h2|⟨g,cap,cur,rfl,hg,r⟩
 ·exact .inl h2
 ·exact .inr ⟨g,cap,cur,rfl,(hb g rfl).trans hg,r⟩
theorem VH.type {w:World}{e:TypeId}{v:Value}{n:Nat}{xs:List Value}(h:VH w e v n xs){g:Nat}(hg:v.ownBlock=some g):∃cur,w.heap[g]?=some (.cells cur e (0,0)):=by
 rcases h.2 with⟨rfl,_⟩|⟨g',cap,cur,rfl,hgg,_⟩
 ·cases hg
 ·cases hg;exact⟨cur,hgg⟩
theorem VH.ne_blk {w:World}{e:TypeId}{v:Value}{n:Nat}{xs:List Value}{B:Nat}{cs:Array Value}{T:TypeId}(h:VH w e v n xs)(hB:Blk w B cs T)(hT:e≠T){g:Nat}(hg:v.ownBlock=some g):g≠B:=by
 rintro rfl;obtain⟨cur,hc⟩:=h.type hg;have:=hc.symm.trans hB;simp at this
 exact hT this.2
theorem VH.shape {w:World}{e:TypeId}{v:Value}{n:Nat}{xs:List Value}(h:VH w e v n xs):∃a c,v=.slice a n c:=by
 rcases h.2 with⟨rfl,rfl⟩|⟨g,cap,cur,rfl,_⟩
 ·exact⟨_,_,rfl⟩
 ·exact⟨_,_,rfl⟩
theorem VH.src {w:World}{e:TypeId}{v:Value}{n:Nat}{xs:List Value}(h:VH w e v n xs):Src w v 1 n xs:=by
 refine⟨by simpa using h.1,?_⟩
 rcases h.2 with h0|⟨g,cap,cur,rfl,hg,hc,_,hs,ht⟩
 ·exact .inl h0
 ·refine .inr ⟨g,0,cap,rfl,hc,λj u hu=>?_⟩
  have hj:=(N6.1 hu).1;rw [h.1] at hj;have hB:Blk w g cur e:=hg;rw [Nat.zero_add,hB.cell,← hu,← ht,List.getElem?_take,if_pos hj];simp
theorem VH.clip {w:World}{e:TypeId}{a:Option Addr}{n c:Nat}{xs:List Value}(h:VH w e (.slice a n c) n xs)(k:Nat)(hk:k<=n)(ha:a≠none):VH w e (.slice a k k) k (xs.take k):=by
 rcases h.2 with⟨h0,h1⟩|⟨g,cap,cur,hv,hg,hc,hm,hs,ht⟩
 ·simp at h0;exact absurd h0.1 ha
 ·cases hv
  refine⟨by rw [N7,h.1];omega,.inr ⟨g,k,cur,rfl,hg,N0 _,by omega,by omega,?_⟩⟩;rw [← ht,List.take_take,Nat.min_eq_left hk]
theorem zcC {P:Program}{t e:TypeId}{z:Value}(T:Ju P t e 1 1 z){w:World}{v src:Value}{n m:Nat}{xs news:List Value}
 (hv:VH w e v n xs) (hs:Src w src 1 m news) (h1:∀u∈news,u.oneCell'=true) (hb:n+m<=1073741824) (ty:TypeId):
 ∃v' w',(Builtin.append_ #[t,t] ty #[v,src]).run P w=.ok v' w'/\VH w' e v' (n+m) (xs++news)/\w.grownBy w' v.ownBlock/\(v'.ownBlock=v.ownBlock∨v'.ownBlock=some w.heap.size):=by
 obtain⟨i,hi,hz0,hz1,hz2⟩:=info_parts T.info
 rcases hv.2 with⟨rfl,rfl⟩|⟨g,cap,cur,rfl,hg,hnc,hcm,hcs,htake⟩
 ·have hx:xs=[]:=N9 hv.1
  subst hx;obtain⟨v',w',h2,h3,h4,h5⟩:=zI T (zX w e 1) hs h1 hb ty;exact⟨v',w',h2,h3.wide,h4,h5⟩
 ·rcases hs.2 with⟨rfl,rfl⟩|⟨b,off,sc,rfl,_,hr⟩
  ·have hn:news=[]:=N9 (by simpa using hs.1)
   subst hn;refine⟨.slice (some ⟨g,0,none⟩) n cap,w,?_,by simpa using hv,⟨rfl,rfl,rfl,N0 _,λ_ _ _=>rfl⟩,.inl rfl⟩;simp [Builtin.append_,run_underlying T.under,sizeOf,typeInfo,hi,Builtin.lenOf,Builtin.firstCells,loadCells,hnc,storeCells]
  ·have hadd:∀j,(⟨b,off,none⟩:Addr).add j=⟨b,off+j,none⟩:=λj=>by unfold Addr.add;split<;>simp_all
   have hl:news.length=m*1:=hs.1;have hlen:(xs++news).length=n+m:=by rw [N1,hv.1,hl];omega
   have hcells:∀j u,news[j]?=some u->w.cell? ((⟨b,off,none⟩:Addr).add j)=some u:=λj u hu=>by rw [hadd];exact hr j u hu
   by_cases hroom:n+m<=cap
   ·have hfit:n*i.size+news.length<=cur.size:=by rw [hz1,hl];omega
    have hrun:=run_append_room (P:=P) w t ty e i T.under hi g n cap cur hg ⟨b,off,none⟩ m sc news (by rw [hz1];exact hl) hcells h1 hroom hfit;refine⟨_,_,hrun,⟨hlen,.inr ⟨g,cap,_,rfl,setRow_heap w g cur _ e _ hg,hroom,hcm,?_,?_⟩⟩,⟨rfl,rfl,rfl,by simp,λk _ hk=>setRow_other w g k _ (λe=>hk (by simp [Value.ownBlock,e]))⟩,.inl rfl⟩
    ·simp only [List.size_toArray,N1,N7,U3,Array.length_toList,hz1]
     omega
    ·rw [hz1,Nat.mul_one,htake,← hlen]
     exact List.take_left
   ·have holds:∀j u,xs[j]?=some u->w.cell? ((⟨g,0,none⟩:Addr).add j)=some u:=λj u hu=>by
     have hj:=(N6.1 hu).1;rw [hv.1] at hj;have hB:Blk w g cur e:=hg;have ha:(⟨g,0,none⟩:Addr).add j=⟨g,0+j,none⟩:=by unfold Addr.add;split<;>simp_all
     rw [ha,Nat.zero_add,hB.cell,← hu,← htake,List.getElem?_take,if_pos hj];simp
    have hrun:=run_append_grow (P:=P) w t ty e i z T.under hi hz0 ⟨g,0,none⟩ n cap xs (by rw [hz1,Nat.mul_one];exact hv.1) holds ⟨b,off,none⟩ m sc news (by rw [hz1];exact hl) hcells (by omega) (by omega) (growslice_fits (by omega) (by rw [hz2];omega));have hge:=grownCap_ge w (n+m) cap e;have hcm2:grownCap w (n+m) cap e<=maxLen:=grownCap_le_maxLen w (n+m) cap e (by unfold maxLen;omega);refine⟨_,_,hrun,⟨hlen,.inr ⟨w.heap.size,_,_,rfl,heap_alloc_new w.drew _,hge,hcm2,?_,?_⟩⟩,⟨rfl,rfl,rfl,by simp,λk hk _=>((N2 w.drew.heap.size w.drew).alloc (N0 _) _).block k hk⟩,.inr rfl⟩
    ·simp only [Array.size_append,List.size_toArray,size_zeroCells,T.cells,hl,hv.1]
     omega
    ·simp only [Array.toList_append,List.append_assoc]
     rw [← List.append_assoc,← hlen];exact List.take_left
end
section
open Go Go.RowKit Go.Shelf Go.Extern.Stop Go.Stop Go.Extern
attribute [local go_sem] Oper.semAt_some zw zn
theorem zjD(l:List UInt8):∀u∈u8s l,u.oneCell'=true:=by
 intro u hu;simp [u8s] at hu;obtain⟨t,_,rfl⟩:=hu;rfl
theorem zgP(l:List UInt8):(u8s l).length=l.length:=by simp [u8s]
theorem zeQ(l:List UInt8)(w:World):∃W c,(convert 9 130 (.string (bs l))).run prog w=.ok (.slice (some ⟨w.heap.size,0,none⟩) l.length c) W/\Below w.heap.size w W/\Src W (.slice (some ⟨w.heap.size,0,none⟩) l.length c) 1 l.length (u8s l)/\W.heap.size=w.heap.size+1:=by
 have hrun:=Go.Lib.run_convert_string_bytes (P:=prog) w 9 130 5 (bs l) Tryz.underlying9 Tryz.underlying130 Tryz.underlying5;rw [zC] at hrun;have hsz:=Go.Lib.bytesWorld_size w 5 (bs l);refine⟨_,_,hrun,⟨?_,?_,?_,by rw [hsz];omega,λk hk=>Go.Lib.bytesWorld_at_old w 5 (bs l) k hk⟩,⟨by rw [zgP];omega,.inr ⟨w.heap.size,0,_,rfl,grownCap_ge _ _ _ _,λj u hu=>?_⟩⟩,hsz⟩
 ·simp [Go.Lib.bytesWorld,World.freeze,World.alloc,World.drew, -World.alloc_eq, -World.drew_eq]
 ·simp [Go.Lib.bytesWorld,World.freeze,World.alloc,World.drew, -World.alloc_eq, -World.drew_eq]
 ·simp [Go.Lib.bytesWorld,World.freeze,World.alloc,World.drew, -World.alloc_eq, -World.drew_eq]
 ·have hj:=(N6.1 hu).1
  rw [zgP] at hj;rw [Nat.zero_add,Go.Lib.bytesWorld_cell w 5 (bs l) j (by rw [zC];exact hj)];rw [← hu];simp [u8s,bs,hj]
def xq(lv:Value)(s:j1):Array Value:=#[lv,.string ⟨#[]⟩,.int .i64 s.cap,.bool s.isCut,.int .i64 s.keep,.bool s.crashed]
def jl(B:Nat)(s:j1)(t:List Nat)(ow:Own)(W:World):Prop:=
 ∃lv,Blk W B (xq lv s) 134/\VH W 5 lv s.log.length (u8s s.log)/\ow B=t/\∀g,lv.ownBlock=some g->ow g=t
theorem jl.loc(B:Nat)(s:j1)(t:List Nat):yH t (jl B s t):=by
 rintro ow ow' W W'⟨lv,hB,hR,o1,o2⟩ hs hk;have kB:=hk B hB.lt (by rw [o1];exact Sub.rfl' t);have kR:∀g,lv.ownBlock=some g->ow' g=ow g/\W'.heap[g]?=W.heap[g]?:=λg hg=>hk g (hR.lt hg) (by rw [o2 g hg];exact Sub.rfl' t)
 exact⟨lv,hB.kept kB.2,hR.kept (λg hg=>(kR g hg).2),kB.1.trans o1,λg hg=>(kR g hg).1.trans (o2 g hg)⟩
def Zh(B:Nat)(s:j1)(t:List Nat)(ow:Own)(w:World)(v:Value)(e:Ending)(w':World):Prop:=
 e=.returned v/\∃ow',zq t ow w ow' w'/\jl B s t ow' w'
theorem VI {B:Nat}{s s':j1}{lv:Value}{t:List Nat}{ow:Own}{W W':World}(hR:VH W 5 lv s.log.length (u8s s.log))(hB:Blk W B (xq lv s) 134)(o1:ow B=t)(o2:∀g,lv.ownBlock=some g->ow g=t)
 (hM:Mod (λk=>k=B) W W') (hB':Blk W' B (xq lv s') 134) (hl:s'.log=s.log):zq t ow W ow W'/\jl B s' t ow W':=by
 refine⟨⟨hM.mono (λk _ e=>by subst e;rw [o1];exact Sub.rfl' t),λ_ _=>rfl⟩,lv,hB',?_,o1,o2⟩;rw [hl];exact hR.kept (λg hg=>hM.block g (hR.lt hg) (λe=>hR.ne_blk hB (by decide) hg e))
def zaV(c:Int)(t:List Nat)(ow:Own)(w:World)(e:Ending)(w':World):Prop:=
 ∃B ow',e=.returned (.tuple #[.pointer (some ⟨B,0,none⟩),.int .i64 0])/\zq t ow w ow' w'/\Below w.heap.size w w'/\jl B (qG c) t ow' w'/\w.heap.size<=B
theorem zaW(c:Int)(h1:64<=c)(h2:c<=1048576)(t:List Nat)(ow:Own)(w:World):Calls prog 46 #[.int .i64 c] w (zaV c t ow w):=by
 have t1:decide (c<64)=false:=by simp;omega
 have t2:decide (1048576<c)=false:=by simp;omega
 go_enter func46,ntmps46
 go_wp2;go_ret2
 refine⟨w.heap.size,ow.ext w.heap.size (λk=>k=w.heap.size) t,rfl,⟨Mod.alloc _ _ _,λk hk=>Own.ext_old hk⟩,pbx,⟨.slice none 0 0,Blk.new rfl,zd0 _ _,Own.ext_new (N0 _) rfl,by simp [Value.ownBlock]⟩,N0 _⟩
theorem zjE(B:Nat)(s:j1)(t:List Nat)(ow:Own)(src:Value)(d:List UInt8)(w:World)(h:jl B s t ow w)(hm:Src w src 1 d.length (u8s d))(hl:s.log.length+d.length<=1073741824):
 Calls prog 193 #[.pointer (some ⟨B,0,none⟩),src] w (Zh B {s with log:=s.log++d} t ow w (.tuple #[])):=by
 obtain⟨lv,hB,hR,o1,o2⟩:=h;unfold xq at hB;have e0:=hB.cell;have l0:=hB.lt;obtain⟨ma,mc,rfl⟩:=hm.shape;obtain⟨ha,hc,rfl⟩:=hR.shape;obtain⟨lv',W3,hrun,hrow,hgr,hown⟩:=zcC zgh hR hm (zjD d) hl 130;have hneB:(Value.slice ha s.log.length hc).ownBlock≠some B:=λe=>(hR.ne_blk hB (by decide) e) rfl
 have k3:=hB.kept (hgr.block B hB.lt (λe=>hneB e.symm));have f3:=k3.frozen;have l3:=k3.lt;have c3:=k3.cell;obtain⟨sa,sc,rfl⟩:=hrow.shape;clear hm;replace hB:=G hB;replace hR:=G hR;replace hrow:=G hrow;replace k3:=G k3;replace o2:=G o2;replace hown:=G hown;replace hneB:=G hneB
 go_enter func193,ntmps193
 go_wp2_with (at_builtin
              refine zu rfl _ _ _ rfl rfl rfl hrun ?_)
 go_end0
 have hg5:∀g,(Value.slice sa (s.log.length+d.length) sc).ownBlock=some g->((Value.slice ha s.log.length hc).ownBlock=some g∨g=w.heap.size):=λg hg=>by
  have:=hown.out;rw [hg] at this
  rcases this with h|h
  ·exact .inl h.symm
  ·right;simpa using h
 refine⟨rfl,ow.ext w.heap.size (λk=>(Value.slice sa (s.log.length+d.length) sc).ownBlock=some k) t,⟨?_,λk hk=>Own.ext_old hk⟩,.slice sa (s.log.length+d.length) sc,k3.out.set (o:=0) _,?_,?_,?_⟩
 ·exact(Mod.grown (X:=λk=>Sub t (ow k)) hgr (λk h=>by rw [o2.out k h];exact Sub.rfl' t)).thenSet (p:=⟨B,0,none⟩) (by simp only [o1];exact Sub.rfl' t) _
 ·simp only [N1,X5]
  refine hrow.out.kept (λg hg=>N4 _ _ _ _ (λe=>?_));have e':g=B:=e;subst e'
  rcases hg5 g hg with h|h
  ·exact hneB.out h
  ·omega
 ·rw [Own.ext_old l0,o1]
 ·intro g hg
  rcases hg5 g hg with h|h
  ·rw [Own.ext_old (hR.out.lt h),o2.out g h]
  ·rw [Own.ext_new (by omega) hg]
theorem YN(B:Nat)(s:j1)(t:List Nat)(ow:Own)(r:List UInt8)(k:Int)(w:World)(h:jl B s t ow w)(hk0:0<=k)(hk:k<=r.length)(hl:s.log.length+r.length<=1073741824):
 Calls prog 148 #[.pointer (some ⟨B,0,none⟩),.string (bs r),.int .i64 k] w (Zh B {s with log:=s.log++r.take k.toNat} t ow w (.tuple #[])):=by
 have hex:=yQ r k.toNat;have hsz:=zC r;have y1:k<=((bs r).size:Int):=by rw [hsz];exact hk
 have htl:(r.take k.toNat).length<=r.length:=by rw [N7];omega
 generalize r.take k.toNat=d at*
 obtain⟨W,c,hrun,hb,hsrc,hW⟩:=zeQ d w;have hcall:=zjE B s t ow _ d W ((jl.loc B s t).below h hb) hsrc (by omega);replace hcall:=G hcall;replace hsz:=G hsz;replace h:=G h;clear hsrc
 go_enter func148,ntmps148
 go_wp2_with fail
 refine hcall.out.mono ?_;rintro e w1⟨rfl,ow1,hs1,h1⟩;go_wp2;go_end0
 exact⟨rfl,ow1,(zq.of_below t ow hb).trans hs1,h1⟩
end
section
open Go
theorem xy(n:Nat):yq (le4 n)=n % 4294967296:=by
 unfold yq;rw [if_pos (jb n)];unfold le4;simp only [List.foldr_cons,List.foldr_nil,UInt8.toNat_ofNat'];omega
theorem VJ(n:Nat):(le4 n).length=4:=rfl
theorem QW(l:List UInt8):(qD l).length=l.length+4:=by simp [qD,VJ]
theorem VK(l:List UInt8):vG (qD l)=some l:=by
 unfold vG;rw [if_neg (by rw [QW];omega)];have h1:(qD l).length - 4=l.length:=by rw [QW];omega
 rw [h1];have h2:(qD l).take l.length=l:=by unfold qD;rw [List.take_left'];rfl
 have h3:(qD l).drop l.length=le4 (zeI l):=by unfold qD;rw [List.drop_left'];rfl
 rw [h2,h3,if_pos rfl]
theorem VL {d:List UInt8}(h:d.length<=4096):zZ d=(qD ([52] ++le4 d.length++d),0):=by unfold zZ;rw [if_neg (by omega)]
theorem xD {d:List UInt8}(h:d.length<=4096):(zZ d).1.length=d.length+9:=by
 rw [VL h,QW];simp [VJ];omega
theorem VM {d:List UInt8}(h:d.length<=4096)(k:Nat)(rest:List UInt8)(hk:5<=k):(((zZ d).1++rest).take k).head?=some 52/\((((zZ d).1++rest).take k).drop 1).take 4=le4 d.length:=by
 rw [VL h];obtain⟨m,rfl⟩:∃m,k=m+5:=⟨k - 5,by omega⟩;unfold qD le4;simp
theorem zaX {d:List UInt8}(h:d.length<=4096)(rest:List UInt8):jm ((zZ d).1++rest)=(d,9+d.length):=by
 have hl:=xD h;have hh:=VM h ((zZ d).1++rest).length rest (by rw [N1];omega);rw [List.take_length] at hh;have hg:yq ((((zZ d).1++rest).drop 1).take 4)=d.length:=by rw [hh.2,xy];omega
 unfold jm;rw [if_neg (by rw [N1];omega),if_neg (by rw [hh.1];simp),hg,if_neg (by omega),if_neg (by rw [N1];omega)];have ht:((zZ d).1++rest).take (9+d.length)=(zZ d).1:=by rw [List.take_left'];omega
 rw [ht,VL h,VK];simp [le4]
theorem zeR {d:List UInt8}(h:d.length<=4096)(k:Nat)(hk:k<(zZ d).1.length):(jm ((zZ d).1.take k)).2=0:=by
 have hl:=xD h;unfold jm;have hlen:((zZ d).1.take k).length=k:=by rw [N7];omega
 by_cases h9:k<9
 ·rw [if_pos (by rw [hlen];exact h9)]
 ·have hh:=VM h k [] (by omega)
  rw [List.append_nil] at hh;have hg:yq ((((zZ d).1.take k).drop 1).take 4)=d.length:=by rw [hh.2,xy];omega
  rw [if_neg (by rw [hlen];exact h9),if_neg (by rw [hh.1];simp),hg,if_neg (by omega),if_pos (by rw [hlen];omega)]
theorem JI:(jm []).2=0:=rfl
def recs(l:List (List UInt8)):List UInt8:=l.flatMap λd=>(zZ d).1
def zd1(l:List (List UInt8)):Prop:=∀d∈l,d.length<=4096
theorem zaY(l:List (List UInt8))(d:List UInt8):recs (l++ [d])=recs l++(zZ d).1:=by simp [recs]
theorem zd2 {l:List (List UInt8)}(h:zd1 l):9*l.length<=(recs l).length:=by
 induction l with
 |nil=>simp [recs]
 |cons d l ih=>
  have h1:=xD (h d (List.mem_cons_self ..));have h2:=ih (λx hx=>h x (U7 _ hx));have h3:recs (d::l)=(zZ d).1++recs l:=rfl;rw [h3,N1,List.length_cons];omega
theorem VN {tail:List UInt8}(ht:(jm tail).2=0):∀(l:List (List UInt8)) (n:Nat),zd1 l->l.length<n->xp n (recs l++tail)=(l,(recs l).length)
 | [],n+1,_,_=>by
   have h3:recs [] ++tail=tail:=rfl;rw [h3];unfold xp;rw [if_pos ht];rfl
 | [],0,_,h=>by simp at h
 |d::l,0,_,h=>by simp at h
 |d::l,n+1,hok,hn=>by
  have h1:=hok d (List.mem_cons_self ..);have h3:recs (d::l)++tail=(zZ d).1++(recs l++tail):=by simp [recs]
  have hf:=zaX h1 (recs l++tail);have hd:((zZ d).1++(recs l++tail)).drop (9+d.length)=recs l++tail:=by rw [List.drop_left'];have:=xD h1;omega
  rw [h3];unfold xp;rw [hf];simp only;rw [if_neg (by omega),hd,VN ht l n (λx hx=>hok x (U7 _ hx)) (by simp at hn;omega)];have h4:recs (d::l)=(zZ d).1++recs l:=rfl;rw [h4,N1,xD h1];simp;omega
def zeS(s:j1)(l:List (List UInt8)):Prop:=zd1 l/\∃tail,s.log=recs l++tail/\(jm tail).2=0/\(s.crashed=false->tail=[])
theorem QX(cap:Int):zeS (qG cap) []:=⟨(λd hd=>absurd hd (by simp)),[],rfl,JI,λ_=>rfl⟩
theorem zeT {d:List UInt8}(h:(zZ d).2=0):d.length<=4096:=by
 unfold zZ at h
 split at h
 ·simp at h
 ·omega
theorem Qb {s:j1}{l:List (List UInt8)}(h:zeS s l)(d:List UInt8):
 ((jg s d).2=0/\s.crashed=false/\(jg s d).1.crashed=false/\zeS (jg s d).1 (l++ [d]))∨
 ((jg s d).2=31/\(jg s d).1.crashed=true/\(zeS (jg s d).1 l∨zeS (jg s d).1 (l++ [d])))∨
 ((jg s d).2=30/\(jg s d).1=s):=by
 obtain⟨hok,tail,hl,ht,hc⟩:=h;unfold jg
 split
 ·rename_i hcr
  exact .inr (.inl ⟨rfl,hcr,.inl ⟨hok,tail,hl,ht,hc⟩⟩)
 ·rename_i hcr
  have hcr':s.crashed=false:=by simpa using hcr
  have htl:=hc hcr';subst htl;rw [List.append_nil] at hl
  split
  ·exact .inr (.inr ⟨rfl,rfl⟩)
  ·rename_i hr
   have hd:=zeT (Decidable.not_not.1 hr)
   have hok2:zd1 (l++ [d]):=by
    intro x hx
    rcases List.mem_append.1 hx with h|h
    ·exact hok x h
    ·simp at h;rw [h];exact hd
   split
   ·exact .inr (.inr ⟨rfl,rfl⟩)
   ·split
    ·refine .inl ⟨rfl,hcr',hcr',hok2,[],?_,JI,λ_=>rfl⟩
     show s.log++_=_
     rw [hl,zaY,List.append_nil]
    ·refine .inr (.inl ⟨rfl,rfl,?_⟩)
     rcases Nat.lt_or_ge (min s.keep ((zZ d).1.length:Int)).toNat (zZ d).1.length with h|h
     ·refine .inl ⟨hok,(zZ d).1.take (min s.keep ((zZ d).1.length:Int)).toNat,?_,zeR hd _ h,λh=>by cases h⟩
      show s.log++_=_
      rw [hl]
     ·refine .inr ⟨hok2,[],?_,JI,λh=>by cases h⟩
      show s.log++_=_
      rw [hl,zaY,List.take_of_length_le h,List.append_nil]
theorem zio {s:j1}{l:List (List UInt8)}(h:zeS s l)(k:Int):zeS (zct s k).1 l/\(zct s k).1.crashed=s.crashed:=by
 unfold zct
 split
 ·exact⟨h,rfl⟩
 ·split
  ·exact⟨h,rfl⟩
  ·exact⟨h,rfl⟩
theorem zaZ {s:j1}{l:List (List UInt8)}(h:zeS s l):(jq s).2=l/\zeS (jq s).1 l/\(jq s).1.crashed=false:=by
 obtain⟨hok,tail,hl,ht,hc⟩:=h;have hlen:=zd2 hok
 have hr:xp s.log.length s.log=(l,(recs l).length):=by
  cases hll:l with
  |nil=>
   cases hs:s.log with
   |nil=>rfl
   |cons b r=>
    have h1:=VN ht l (b::r).length hok (by rw [hll];simp);rw [← hl,hs,hll] at h1;exact h1
  |cons x y=>
   rw [← hll];have h1:=VN ht l s.log.length hok (by rw [hl,N1];rw [hll] at hlen⊢;simp at hlen⊢;omega);rw [← hl] at h1;exact h1
 unfold jq;rw [hr];refine⟨rfl,⟨hok,[],?_,JI,λ_=>rfl⟩,rfl⟩
 show s.log.take (recs l).length=recs l++ []
 rw [hl,List.take_left',List.append_nil];rfl
theorem xz {K V:Type} [DecidableEq K](k k':K)(v:V):∀l:List (K×V),zJ k' (put k v l)=if k'=k then some v else zJ k' l
 | []=>by unfold put zJ;split<;>simp_all [zJ]
 |(q,u)::l=>by
  have ih:=xz k k' v l;unfold put
  by_cases h:k=q
  ·subst h
   rw [if_pos rfl]
   by_cases h2:k'=k
   ·subst h2;simp [zJ]
   ·simp [zJ,h2]
  ·rw [if_neg h]
   by_cases h2:k'=q
   ·subst h2
    rw [if_neg (λe=>h e.symm)];simp [zJ]
   ·rw [zJ,if_neg h2,ih]
    conv=>rhs;rw [zJ,if_neg h2]
theorem zd3 {K V:Type} [DecidableEq K] {k:K}{v:V} :∀ {l:List (K×V)},zJ k l=some v->put k v l=l
 | [],h=>by cases h
 |(q,u)::l,h=>by
  unfold zJ at h;unfold put
  by_cases hq:k=q
  ·subst hq;rw [if_pos rfl] at h⊢;cases h;rfl
  ·rw [if_neg hq] at h⊢;rw [zd3 h]
theorem zgQ(n:Nat):(le8 n).length=8:=rfl
theorem qt {i:Int}(h:zP i=true):1<=i/\i<=10000:=by simpa [zP] using h
theorem VO(kind:UInt8){i:Int}(h:zP i=true)(more:List UInt8):(qX kind i more).head?=some kind/\yq (((qX kind i more).drop 1).take 4)=i.toNat/\(qX kind i more).drop 5=more/\(qX kind i more).length=5+more.length:=by
 have hp:=qt h;refine⟨rfl,?_,rfl,by unfold qX;simp [VJ];omega⟩;have:((qX kind i more).drop 1).take 4=le4 (i.toNat % 4294967296):=rfl;rw [this,xy];omega
theorem Qc(kind:UInt8){i:Int}(b:Nat)(hb:b<18446744073709551616)(x:List UInt8):yq (((qX kind i (le8 b++x)).drop 5).take 4)+4294967296*yq (((qX kind i (le8 b++x)).drop 9).take 4)=b/\(qX kind i (le8 b++x)).drop 13=x:=by
 have h1:((qX kind i (le8 b++x)).drop 5).take 4=le4 b:=rfl;have h2:((qX kind i (le8 b++x)).drop 9).take 4=le4 (b / 4294967296):=rfl;rw [h1,h2,xy,xy];exact⟨by omega,rfl⟩
theorem za0 {i:Int}(h:zP i=true){x:List UInt8}(hx:x.length<=4000):jE (qX 100 i x)=some (100,i,0,x):=by
 have hp:=qt h;obtain⟨h1,h2,h3,h4⟩:=VO 100 h x;have hi:((i.toNat:Nat):Int)=i:=Int.toNat_of_nonneg (by omega);unfold jE;rw [if_neg (by omega),h2,hi,if_neg (by rw [h];simp;omega),if_pos h1,h3,if_pos hx]
theorem QY {i:Int}(h:zP i=true){b:Nat}(hb:b<18446744073709551616)(h0:1<=b):jE (qX 112 i (le8 b))=some (112,i,b,[]):=by
 have hp:=qt h;obtain⟨h1,h2,h3,h4⟩:=VO 112 h (le8 b);obtain⟨h5,h6⟩:=Qc 112 (i:=i) b hb [];rw [List.append_nil] at h5 h6;have hi:((i.toNat:Nat):Int)=i:=Int.toNat_of_nonneg (by omega);have h8:=zgQ b;unfold jE;rw [if_neg (by omega),h2,hi,if_neg (by rw [h];simp;omega),h1,if_neg (by simp),if_pos (.inl rfl),if_neg (by omega),h6,if_neg (by simp),h5,if_pos ⟨h0,by simp⟩];rfl
theorem zeU {i:Int}(h:zP i=true){b:Nat}(hb:b<18446744073709551616)(h0:1<=b){x:List UInt8}(hx:x.length<=4000):jE (qX 118 i (le8 b++x))=some (118,i,b,x):=by
 have hp:=qt h;obtain⟨h1,h2,h3,h4⟩:=VO 118 h (le8 b++x);obtain⟨h5,h6⟩:=Qc 118 (i:=i) b hb x;have hi:((i.toNat:Nat):Int)=i:=Int.toNat_of_nonneg (by omega);have h8:=zgQ b;rw [N1] at h4;unfold jE;rw [if_neg (by omega),h2,hi,if_neg (by rw [h];simp;omega),h1,if_neg (by simp),if_pos (.inr rfl),if_neg (by omega),h6,if_neg (by simp),h5,if_pos ⟨h0,hx⟩];rfl
theorem QZ {p:xl}{i:Int}{b:Nat}(hb:b<18446744073709551616)(h:(zB p i b).2.2.2=0):yy p (zB p i b).2.2.1=(zB p i b).1/\(zB p i b).2.2.1=qX 112 i (le8 b)/\zP i=true/\1<=b/\(zO p i).1<b/\(zB p i b).1={p with votes:=put i (b,(zO p i).2) p.votes} :=by
 unfold zB at h⊢
 split at h
 ·simp at h
 ·rename_i hi
  rw [if_neg hi];have hi':zP i=true:=by simpa using hi
  split at h
  ·rename_i h1;exact absurd h h1
  ·rename_i h1
   rw [if_neg h1]
   have hv:(yx (zO p i) b)=((b,(zO p i).2),0)/\1<=b/\(zO p i).1<b:=by
    unfold yx at h1⊢
    split at h1
    ·simp at h1
    ·rename_i h2
     rw [if_neg h2]
     split at h1
     ·simp at h1
     ·rename_i h3
      rw [if_neg h3];exact⟨rfl,by omega,by omega⟩
   simp only;rw [hv.1];refine⟨?_,by first|exact rfl|exact trivial,hi',hv.2.1,hv.2.2,by first|exact rfl|exact trivial⟩;unfold yy;rw [QY hi' hb hv.2.1];simp only;rw [if_neg (by decide)]
   have hr:xK 112 (zO p i) b []=(b,(zO p i).2):=by
    unfold xK;rw [if_neg (by simp)];rw [Nat.max_eq_right (by omega)]
   rw [hr,if_neg (λe=>by have:=congrArg Prod.fst e;simp at this;omega)]
theorem zeV {p:xl}{i:Int}{b:Nat}{x:List UInt8}(hb:b<18446744073709551616)(h:(vH p i b x).2.2=0):yy p (vH p i b x).2.1=(vH p i b x).1/\zP i=true/\1<=b/\(zO p i).1<=b/\x.length<=4000/\(vH p i b x).1={p with votes:=put i (b,b,x) p.votes} /\(vH p i b x).2.1=qX 118 i (le8 b++x):=by
 unfold vH at h⊢
 split at h
 ·simp at h
 ·rename_i hi
  rw [if_neg hi];have hi':zP i=true:=by simpa using hi
  split at h
  ·rename_i h1;exact absurd h h1
  ·rename_i h1
   rw [if_neg h1]
   have hv:(VE (zO p i) b x)=((b,b,x),0)/\1<=b/\(zO p i).1<=b/\x.length<=4000/\(zO p i).2.1<=(zO p i).1:=by
    unfold VE at h1⊢
    split at h1
    ·simp at h1
    ·rename_i h2
     rw [if_neg h2]
     have h2':ys (zO p i)=true/\1<=b/\x.length<=4000:=by
      refine⟨?_,by omega,by omega⟩
      cases hvo:ys (zO p i)
      ·exact absurd (.inl hvo) h2
      ·rfl
     split at h1
     ·simp at h1
     ·rename_i h3
      rw [if_neg h3]
      have h4:(zO p i).2.1<=(zO p i).1:=by
       have:=h2'.1;unfold ys at this;simp only [Bool.and_eq_true,decide_eq_true_eq] at this;exact this.1.2
      exact⟨rfl,h2'.2.1,by omega,h2'.2.2,h4⟩
   simp only;rw [hv.1];refine⟨?_,hi',hv.2.1,hv.2.2.1,hv.2.2.2.1,by first|exact rfl|exact trivial,by first|exact rfl|exact trivial⟩;unfold yy;rw [zeU hi' hb hv.2.1 hv.2.2.2.1];simp only;rw [if_neg (by decide)]
   have hr:xK 118 (zO p i) b x=(b,b,x):=by
    unfold xK;rw [if_pos ⟨rfl,by omega⟩,Nat.max_eq_right (by omega)]
   rw [hr]
   split
   ·rename_i heq
    have hl:zJ i p.votes=some (b,b,x):=by
     unfold zO at heq
     cases hlk:zJ i p.votes with
     |none=>rw [hlk] at heq;simp at heq;omega
     |some u=>rw [hlk] at heq;simp at heq;rw [heq]
    show p={p with votes:=put i (b,b,x) p.votes}
    rw [zd3 hl]
   ·rfl
theorem zcD {p:xl}{i:Int}{x:List UInt8}(h:(zV p i x).2.2=0)(hr:(zV p i x).2.1≠ []):yy p (zV p i x).2.1=(zV p i x).1/\zJ i p.known=none/\zP i=true/\x.length<=4000/\(zV p i x).1.known=put i x p.known/\(zV p i x).1.votes=p.votes/\(zV p i x).2.1=qX 100 i x:=by
 have hq:(zV p i x).2.1=qX 100 i x/\zP i=true/\x.length<=4000/\zJ i p.known=none/\(zV p i x).1={p with known:=put i x p.known,length:=JC (put i x p.known) 10000 p.length} :=by
  unfold zV at h hr⊢
  split at h
  ·simp at h
  ·rename_i h1
   rw [if_neg h1] at hr⊢
   have h1':zP i=true/\x.length<=4000:=by
    refine⟨?_,by omega⟩
    cases hi:zP i
    ·exact absurd (.inl hi) h1
    ·rfl
   cases hl:zJ i p.known with
   |none=>exact⟨rfl,h1'.1,h1'.2,rfl,rfl⟩
   |some y=>
    rw [hl] at hr;simp only at hr
    split at hr<;>simp at hr
 obtain⟨h1,h2,h3,h4,h5⟩:=hq;refine⟨?_,h4,h2,h3,by rw [h5],by rw [h5],h1⟩;rw [h1];unfold yy;rw [za0 h2 h3];simp
theorem zeW {p:xl}{i:Int}{x:List UInt8}(h:(zV p i x).2.2≠0∨(zV p i x).2.1=[]):(zV p i x).1=p:=by
 unfold zV at h⊢
 by_cases h1:zP i=false∨4000<x.length
 ·rw [if_pos h1]
 ·rw [if_neg h1] at h⊢
  cases hl:zJ i p.known with
  |none=>rw [hl] at h;simp [qX] at h
  |some y=>simp only;split<;>rfl
end
section
open Go Go.RowKit Go.Shelf Go.Extern.Stop Go.Stop Go.Extern
theorem zjF(a b:Zx)(w:World):(binOp .neq 173 (Jz a) (Jz b)).run prog w=.ok (.bool (decide (a≠b))) w:=by
 obtain⟨i,c,d⟩:=a;obtain⟨i',c',d'⟩:=b;unfold Jz;rw [run_neq_struct];simp [go_sem]
 by_cases h1:i=i'<;>by_cases h2:c=c'<;>by_cases h3:d=d'<;>simp [h1,h2,h3] <;>omega
end
open Go Go.RowKit
structure Y4(f:yG)(k:Nat):Prop where
 ok:vO f.book
 few:qC f.book<=64*k
 eras:f.eras.length<=k+1
 low:0<=f.count
 high:f.count<=k
theorem zgR(v:Int):Y4 (Za v) 0:=⟨zeG,by simp [Za,qC,xH],by simp [Za],by simp [Za],by simp [Za]⟩
theorem Y4.mono {f:yG}{k n:Nat}(h:Y4 f k)(hk:k<=n):Y4 f n:=⟨h.ok,by have:=h.few;omega,by have:=h.eras;omega,h.low,by have:=h.high;omega⟩
theorem Y4.begin {f:yG}{k:Nat}(h:Y4 f k)(v:Int)(sw:Bool)(he:f.eras.length<=k):Y4 (vE f v sw) k:=
 ⟨h.ok,h.few,by simp [vE];exact he,h.low,h.high⟩
theorem zcE {f:yG}{k:Nat}(h:Y4 f k)(e:jF):Y4 (j0 f e).1 (k+1):=by
 have h1:Y4 {f with count:=f.count+1} (k+1):=⟨h.ok,by have:=h.few;show qC f.book<=_;omega,by have:=h.eras;show f.eras.length<=_;omega,by have:=h.low;show 0<=f.count+1;omega,by have:=h.high;show f.count+1<=_;omega⟩;have h2:({f with count:=f.count+1} :yG).eras.length<=k+1:=h.eras;unfold j0
 split
 ·exact h.mono (by omega)
 ·rename_i hr
  have hr':Jt e=true:=by simpa using hr
  split
  ·exact h1
  ·split
   ·have hd:=qq h.ok e.msgs
    have hm:=JA hr';exact⟨hd.1,by have:=hd.2.1;have:=h.few;show qC (jd f.book e.msgs).1<=_;omega,h1.eras,h1.low,h1.high⟩
   ·split
    ·split
     ·exact h1
     ·exact h1.begin _ _ h2
    ·split
     ·exact h1
     ·exact h1.begin _ _ h2
