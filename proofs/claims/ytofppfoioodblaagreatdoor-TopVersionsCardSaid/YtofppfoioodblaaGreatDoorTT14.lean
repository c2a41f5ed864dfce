/- PARTS OF THE PROOF. -/
import Derived.Lib.ConvBytes
import Derived.Test.YtofppfoioodblaaGreatDoorTT03
import Derived.Test.YtofppfoioodblaaGreatDoorTT04
import Derived.Test.YtofppfoioodblaaGreatDoorTT07
import Derived.Test.YtofppfoioodblaaGreatDoorTT11
import Derived.Test.YtofppfoioodblaaGreatDoorTT13
set_option maxRecDepth 8000
set_option maxHeartbeats 4000000
open Go.Proofs.Tryz
namespace Go.Proofs.YtofppfoioodblaaGreatDoor
section
open Go Go.RowKit Go.Shelf Go.Extern.Stop Go.Stop Go.Extern
attribute [local go_sem] Oper.semAt_some zv zm
theorem vV(s:List UInt8):(jm s).2=0∨(9<=(jm s).2/\(jm s).2<=s.length):=by
 unfold jm
 split
 ·exact .inl rfl
 ·split
  ·exact .inl rfl
  ·split
   ·exact .inl rfl
   ·split
    ·exact .inl rfl
    ·split
     ·exact .inl rfl
     ·right;simp only;omega
theorem zcD(s:List UInt8):(jm s).1.length<=s.length:=by
 unfold jm
 split
 ·simp
 ·split
  ·simp
  ·split
   ·simp
   ·split
    ·simp
    ·rename_i h9 _ _ h
     split
     ·simp
     ·rename_i b hb
      have:b.length<=s.length:=by
       unfold xA at hb
       split at hb
       ·cases hb
       ·split at hb
        ·cases hb;simp only [N7];omega
        ·cases hb
      simp only [U3];omega
def zjy(v:Value):Nat:=match v with| .string b=>b.size|_=>0
def zdY(x:List UInt8×Nat):Array Value:=#[.string (bs x.1),.int .i64 (x.2:Nat)]
theorem zcE(cb:Nat)(s:List UInt8)(hl:s.length<=1073741824):
 XG Fence.wide 2 prog 257 #[.pointer (some ⟨cb,0,none⟩)] zdY
  (λ(r:List UInt8×Bool) x=>r.2=false/\x=jm r.1/\r.1.length<=s.length) (λr x=>(r.1.drop x.2,decide (x.2=0))) (λr=>r.2=true)
  (λ_ W=>Blk W cb #[.string (bs s)] 9) (s,false):=by
 intro lp J Jx W hJ hJx hRd hY h0;have e0:=(hRd _ _ _ h0).cell;have hF:Fence.wide.fn 257:=trivial;have hro:Fence.wide.round=none:=rfl;refine callsIn_of_wp func257 rfl hF ?_ hro;simp only [ntmps257,R8,Nat.reduceAdd,Nat.reduceSub]
 gi_wp2
 gi_loopw [3] (λp3 wr=>∃(r:List UInt8)(X:Nat->Prop),p3=.string (bs r)/\r.length<=s.length/\J (r,false) X wr) (λp3 _=>zjy p3)
 case atStart=>exact⟨s,_,rfl,N0 _,h0⟩
 case round=>
  obtain⟨r,X,rfl,hr,hJs⟩:=hrel;clear e0;have hsz:=zJ r;have hfs:=vV r;have hfd:=zcD r;obtain⟨⟨d,n⟩,hf⟩:∃x,jm r=x:=⟨_,rfl⟩;rw [hf] at hfs hfd;simp only at hfs hfd;have hcall:=λW=>zgV r (by omega) W
  rw [hf] at hcall;unfold zdX at hcall;simp only at hcall;replace hcall:=hid hcall
  gi_wp2_with fail
  refine(callsIn_wide.2 (hcall.out _)).mono ?_;rintro e w1⟨rfl,hb1⟩;have hJ1:J (r,false) X w1:=hJ _ _ _ _ _ hJs (Mod.of_below X hb1) (λk h=>.inl h);obtain⟨fn,tmps,assign,body,hy,hR⟩:=hY (r,false) (d,n) X w1 hJ1 ⟨rfl,hf.symm,hr⟩;unfold zdY at hy;simp only at hy;replace hf:=hid hf
  by_cases hn:n=0
  ·subst hn
   have t0:((0:Int)==0)=true:=rfl;rw [show((0:Nat):Int)=0 from rfl] at hy;replace hsz:=hid hsz
   gi_wp2
   refine hR.mono ?_;rintro e W'(⟨rfl,hJ', -⟩|⟨rfl,hx'⟩)
   ·clear hR hy
    gi_wp2
    refine bodyPost_ret (results_none rfl _ _ _) rfl ?_;exact⟨⟨_,rfl⟩,.inl ⟨_,_,rfl,hJ'⟩⟩
   ·gi_wp2
    refine bodyPost_ret (results_none rfl _ _ _) rfl ?_;exact⟨⟨_,rfl⟩,.inr ⟨_,hx'⟩⟩
  ·have t0:((n:Int)==0)=false:=by simpa using hn
   have hn9:9<=n/\n<=r.length:=by omega
   have y1:(n:Int)<=((bs r).size:Int):=by omega
   have hx:=jk r n;replace hsz:=hid hsz
   gi_wp2
   refine hR.mono ?_;rintro e W'(⟨rfl,hJ', -⟩|⟨rfl,hx'⟩)
   ·clear hR hy
    gi_wp2
    go_roundw
    case rel=>exact⟨r.drop n,_,rfl,by simp;omega,by simpa [hn] using hJ'⟩
    case measure=>simp [zjy,zJ];omega
   ·gi_wp2
    refine bodyPost_ret (results_none rfl _ _ _) rfl ?_;exact⟨⟨_,rfl⟩,.inr ⟨_,hx'⟩⟩
theorem zgW(b:Nat)(x y z:List UInt8)(w:World)(h0:w.cell? ⟨b,0,none⟩=some (.string (bs x)))(h1:w.cell? ⟨b,1,none⟩=some (.string (bs y)))(h2:w.cell? ⟨b,2,none⟩=some (.string (bs z)))
 (hl:x.length+y.length+z.length<=1073741824):Calls prog 292 #[.slice (some ⟨b,0,none⟩) 3 3] w λe w'=>e=.returned (.string (bs (x++(y++z))))/\w'=w:=by
 have hsrc:Src w (.slice (some ⟨b,0,none⟩) 3 3) 1 [x,y,z].length (yD [x,y,z]):=by
  refine⟨rfl,.inr ⟨b,0,3,rfl,N0 _,λj u hu=>?_⟩⟩
  match j,hu with
  |0,hu=>cases hu;exact h0
  |1,hu=>cases hu;exact h1
  |2,hu=>cases hu;exact h2
 refine(zeO _ [x,y,z] w hsrc (by simp) (by simp) (by simp [QN];omega)).mono ?_;rintro e w'⟨rfl,rfl⟩;exact⟨by simp,rfl⟩
theorem zdZ(k:UInt8)(W:World)(b:Nat)(h:W.cell? ⟨b,0,none⟩=some (.int .u8 (k.toNat:Int))):(convert 49 9 (.slice (some ⟨b,0,none⟩) 1 1)).run prog W=.ok (.string (bs [k])) W:=by
 rw [run_convert_bytes_arg W 49 5 Tryz.underlying49 Tryz.underlying5 b 0 1 1 [(k.toNat:Int)] rfl (λi hi=>by obtain rfl:i=0:=(by omega);exact h) 9 Tryz.underlying9];have:strOfNums [(k.toNat:Int)]=bs [k]:=by unfold strOfNums bs;simp
 rw [this]
def zcF(r:List UInt8×Int):Value:=.tuple #[.string (bs r.1),.int .i64 r.2]
theorem zeQ(d:List UInt8)(hl:d.length<=1073741000)(w:World):Calls prog 232 #[.string (bs d)] w λe w'=>e=.returned (zcF (zG d))/\Below w.heap.size w w':=by
 have hsz:=zJ d
 by_cases h:4096<d.length
 ·have hr:zG d=([],30):=by unfold zG;rw [if_pos h]
  rw [hr];have t0:decide ((4096:Int)<((bs d).size:Int))=true:=by rw [hsz];simp;omega
  replace hsz:=hid hsz;replace hr:=hid hr
  go_enter func232,ntmps232
  go_wp2;go_ret2
  exact⟨rfl,N2 _ _⟩
 ·have hr:zG d=(qB ([52] ++(le4 d.length++d)),0):=by unfold zG;rw [if_neg h,List.append_assoc]
  rw [hr];have t0:decide ((4096:Int)<((bs d).size:Int))=false:=by rw [hsz];simp;omega
  have hwr:IntKind.u32.wrap ((bs d).size:Int)=((d.length:Nat):Int):=by rw [IntKind.wrap_u32,hsz];omega
  have hseal:=λW=>zdU ([52] ++(le4 d.length++d)) (by simp [zY];omega) W
  have hjl:([52]:List UInt8).length+(le4 d.length).length+d.length<=1073741824:=by simp [zY];omega
  have hcv:∀(W:World)(b:Nat),W.cell? ⟨b,0,none⟩=some (.int .u8 52)->(convert 49 9 (.slice (some ⟨b,0,none⟩) 1 1)).run prog W=.ok (.string (bs [52])) W:=zdZ 52;unfold zcF;replace hsz:=hid hsz;replace hr:=hid hr;replace hseal:=hid hseal
  go_enter func232,ntmps232
  go_wp2_with fail
  go_region_with (first
   |(go_at_call 134;(with_reducible refine(yI _ _).mono ?_);rintro e w1 ⟨rfl,hb⟩;have hz:=hb.size;obtain⟨hcA,hfA⟩:=zaD hb)
   |(go_at_call 292;(with_reducible refine(zgW _ [52] (le4 d.length) d _ (by simp) (by simp) (by simp) hjl).mono ?_);rintro e w2 ⟨rfl,rfl⟩)
   |(go_at_call 241;refine(hseal.out _).mono ?_;rintro e w3 ⟨rfl,hb3⟩))
  all_goals go_wp2
  all_goals go_ret2
  all_goals exact⟨rfl,pbx⟩
end
section
open Go Go.RowKit
def VG(w:World)(e:TypeId)(v:Value)(n:Nat)(xs:List Value):Prop:=
 xs.length=n/\((v=.slice none 0 0/\n=0)∨
  ∃g cap cur,v=.slice (some ⟨g,0,none⟩) n cap/\w.heap[g]?=some (.cells cur e (0,0))/\n<=cap/\cap<=maxLen/\cap<=cur.size/\cur.toList.take n=xs)
theorem zd0(w:World)(e:TypeId):VG w e (.slice none 0 0) 0 []:=⟨rfl,.inl ⟨rfl,rfl⟩⟩
theorem Row.wide {w:World}{e:TypeId}{v:Value}{n:Nat}{xs:List Value}(h:Row w e 1 v n xs):VG w e v n xs:=by
 refine⟨by simpa using h.1,?_⟩
 rcases h.2 with h|⟨g,cap,cur,rfl, -,hg,hc,hm,hs,ht⟩
 ·exact .inl h
 ·exact .inr ⟨g,cap,cur,rfl,hg,hc,hm,by omega,by simpa using ht⟩
theorem VG.lt {w:World}{e:TypeId}{v:Value}{n:Nat}{xs:List Value}(h:VG w e v n xs){g:Nat}(hg:v.ownBlock=some g):g<w.heap.size:=by
 rcases h.2 with⟨rfl,_⟩|⟨g',cap,cur,rfl,hgg,_⟩
 ·cases hg
 ·cases hg;exact(N5.1 hgg).1
theorem VG.kept {w w':World}{e:TypeId}{v:Value}{n:Nat}{xs:List Value}(h:VG w e v n xs)(hb:∀g,v.ownBlock=some g->w'.heap[g]?=w.heap[g]?):VG w' e v n xs:=by
 refine⟨h.1,?_⟩
 rcases h.2 with h2|⟨g,cap,cur,rfl,hg,r⟩
 ·exact .inl h2
 ·exact .inr ⟨g,cap,cur,rfl,(hb g rfl).trans hg,r⟩
theorem VG.type {w:World}{e:TypeId}{v:Value}{n:Nat}{xs:List Value}(h:VG w e v n xs){g:Nat}(hg:v.ownBlock=some g):∃cur,w.heap[g]?=some (.cells cur e (0,0)):=by
 rcases h.2 with⟨rfl,_⟩|⟨g',cap,cur,rfl,hgg,_⟩
 ·cases hg
 ·cases hg;exact⟨cur,hgg⟩
theorem VG.ne_blk {w:World}{e:TypeId}{v:Value}{n:Nat}{xs:List Value}{B:Nat}{cs:Array Value}{T:TypeId}(h:VG w e v n xs)(hB:Blk w B cs T)(hT:e≠T){g:Nat}(hg:v.ownBlock=some g):g≠B:=by
 rintro rfl;obtain⟨cur,hc⟩:=h.type hg;have:=hc.symm.trans hB;simp at this
 exact hT this.2
theorem VG.shape {w:World}{e:TypeId}{v:Value}{n:Nat}{xs:List Value}(h:VG w e v n xs):∃a c,v=.slice a n c:=by
 rcases h.2 with⟨rfl,rfl⟩|⟨g,cap,cur,rfl,_⟩
 ·exact⟨_,_,rfl⟩
 ·exact⟨_,_,rfl⟩
theorem VG.src {w:World}{e:TypeId}{v:Value}{n:Nat}{xs:List Value}(h:VG w e v n xs):Src w v 1 n xs:=by
 refine⟨by simpa using h.1,?_⟩
 rcases h.2 with h0|⟨g,cap,cur,rfl,hg,hc,_,hs,ht⟩
 ·exact .inl h0
 ·refine .inr ⟨g,0,cap,rfl,hc,λj u hu=>?_⟩
  have hj:=(N6.1 hu).1;rw [h.1] at hj;have hB:Blk w g cur e:=hg;rw [Nat.zero_add,hB.cell,← hu,← ht,List.getElem?_take,if_pos hj];simp
theorem VG.clip {w:World}{e:TypeId}{a:Option Addr}{n c:Nat}{xs:List Value}(h:VG w e (.slice a n c) n xs)(k:Nat)(hk:k<=n)(ha:a≠none):VG w e (.slice a k k) k (xs.take k):=by
 rcases h.2 with⟨h0,h1⟩|⟨g,cap,cur,hv,hg,hc,hm,hs,ht⟩
 ·simp at h0;exact absurd h0.1 ha
 ·cases hv
  refine⟨by rw [N7,h.1];omega,.inr ⟨g,k,cur,rfl,hg,N0 _,by omega,by omega,?_⟩⟩;rw [← ht,List.take_take,Nat.min_eq_left hk]
theorem zcG {P:Program}{t e:TypeId}{z:Value}(T:Yc P t e 1 1 z){w:World}{v src:Value}{n m:Nat}{xs news:List Value}
 (hv:VG w e v n xs) (hs:Src w src 1 m news) (h1:∀u∈news,u.oneCell'=true) (hb:n+m<=1073741824) (ty:TypeId):
 ∃v' w',(Builtin.append_ #[t,t] ty #[v,src]).run P w=.ok v' w'/\VG w' e v' (n+m) (xs++news)/\w.grownBy w' v.ownBlock/\(v'.ownBlock=v.ownBlock∨v'.ownBlock=some w.heap.size):=by
 obtain⟨i,hi,hz0,hz1,hz2⟩:=info_parts T.info
 rcases hv.2 with⟨rfl,rfl⟩|⟨g,cap,cur,rfl,hg,hnc,hcm,hcs,htake⟩
 ·have hx:xs=[]:=N9 hv.1
  subst hx;obtain⟨v',w',h2,h3,h4,h5⟩:=zT T (z7 w e 1) hs h1 hb ty;exact⟨v',w',h2,h3.wide,h4,h5⟩
 ·rcases hs.2 with⟨rfl,rfl⟩|⟨b,off,sc,rfl,_,hr⟩
  ·have hn:news=[]:=N9 (by simpa using hs.1)
   subst hn;refine⟨.slice (some ⟨g,0,none⟩) n cap,w,?_,by simpa using hv,⟨rfl,rfl,rfl,N0 _,λ_ _ _=>rfl⟩,.inl rfl⟩;simp [Builtin.append_,run_underlying T.under,sizeOf,typeInfo,hi,Builtin.lenOf,Builtin.firstCells,loadCells,hnc,storeCells]
  ·have hadd:∀j,(⟨b,off,none⟩:Addr).add j=⟨b,off+j,none⟩:=λj=>by unfold Addr.add;split<;>simp_all
   have hl:news.length=m*1:=hs.1;have hlen:(xs++news).length=n+m:=by rw [N1,hv.1,hl];omega
   have hcells:∀j u,news[j]?=some u->w.cell? ((⟨b,off,none⟩:Addr).add j)=some u:=λj u hu=>by rw [hadd];exact hr j u hu
   by_cases hroom:n+m<=cap
   ·have hfit:n*i.size+news.length<=cur.size:=by rw [hz1,hl];omega
    have hrun:=run_append_room (P:=P) w t ty e i T.under hi g n cap cur hg ⟨b,off,none⟩ m sc news (by rw [hz1];exact hl) hcells h1 hroom hfit;refine⟨_,_,hrun,⟨hlen,.inr ⟨g,cap,_,rfl,setRow_heap w g cur _ e _ hg,hroom,hcm,?_,?_⟩⟩,⟨rfl,rfl,rfl,by simp,λk _ hk=>setRow_other w g k _ (λe=>hk (by simp [Value.ownBlock,e]))⟩,.inl rfl⟩
    ·simp only [List.size_toArray,N1,N7,U3,Array.length_toList,hz1]
     omega
    ·rw [hz1,Nat.mul_one,htake,← hlen]
     exact List.take_left
   ·have holds:∀j u,xs[j]?=some u->w.cell? ((⟨g,0,none⟩:Addr).add j)=some u:=λj u hu=>by
     have hj:=(N6.1 hu).1;rw [hv.1] at hj;have hB:Blk w g cur e:=hg;have ha:(⟨g,0,none⟩:Addr).add j=⟨g,0+j,none⟩:=by unfold Addr.add;split<;>simp_all
     rw [ha,Nat.zero_add,hB.cell,← hu,← htake,List.getElem?_take,if_pos hj];simp
    have hrun:=run_append_grow (P:=P) w t ty e i z T.under hi hz0 ⟨g,0,none⟩ n cap xs (by rw [hz1,Nat.mul_one];exact hv.1) holds ⟨b,off,none⟩ m sc news (by rw [hz1];exact hl) hcells (by omega) (by omega) (growslice_fits (by omega) (by rw [hz2];omega));have hge:=grownCap_ge w (n+m) cap e;have hcm2:grownCap w (n+m) cap e<=maxLen:=grownCap_le_maxLen w (n+m) cap e (by unfold maxLen;omega);refine⟨_,_,hrun,⟨hlen,.inr ⟨w.heap.size,_,_,rfl,heap_alloc_new w.drew _,hge,hcm2,?_,?_⟩⟩,⟨rfl,rfl,rfl,by simp,λk hk _=>((N2 w.drew.heap.size w.drew).alloc (N0 _) _).block k hk⟩,.inr rfl⟩
    ·simp only [Array.size_append,List.size_toArray,size_zeroCells,T.cells,hl,hv.1]
     omega
    ·simp only [Array.toList_append,List.append_assoc]
     rw [← List.append_assoc,← hlen];exact List.take_left
end
section
open Go Go.RowKit Go.Shelf Go.Extern.Stop Go.Stop Go.Extern
attribute [local go_sem] Oper.semAt_some zv zm
theorem zj0(l:List UInt8):∀u∈u8s l,u.oneCell'=true:=by
 intro u hu;simp [u8s] at hu;obtain⟨t,_,rfl⟩:=hu;rfl
theorem zgX(l:List UInt8):(u8s l).length=l.length:=by simp [u8s]
theorem zeR(l:List UInt8)(w:World):∃W c,(convert 9 49 (.string (bs l))).run prog w=.ok (.slice (some ⟨w.heap.size,0,none⟩) l.length c) W/\Below w.heap.size w W/\Src W (.slice (some ⟨w.heap.size,0,none⟩) l.length c) 1 l.length (u8s l)/\W.heap.size=w.heap.size+1:=by
 have hrun:=Go.Lib.run_convert_string_bytes (P:=prog) w 9 49 5 (bs l) Tryz.underlying9 Tryz.underlying49 Tryz.underlying5;rw [zJ] at hrun;have hsz:=Go.Lib.bytesWorld_size w 5 (bs l);refine⟨_,_,hrun,⟨?_,?_,?_,by rw [hsz];omega,λk hk=>Go.Lib.bytesWorld_at_old w 5 (bs l) k hk⟩,⟨by rw [zgX];omega,.inr ⟨w.heap.size,0,_,rfl,grownCap_ge _ _ _ _,λj u hu=>?_⟩⟩,hsz⟩
 ·simp [Go.Lib.bytesWorld,World.freeze,World.alloc,World.drew, -World.alloc_eq, -World.drew_eq]
 ·simp [Go.Lib.bytesWorld,World.freeze,World.alloc,World.drew, -World.alloc_eq, -World.drew_eq]
 ·simp [Go.Lib.bytesWorld,World.freeze,World.alloc,World.drew, -World.alloc_eq, -World.drew_eq]
 ·have hj:=(N6.1 hu).1
  rw [zgX] at hj;rw [Nat.zero_add,Go.Lib.bytesWorld_cell w 5 (bs l) j (by rw [zJ];exact hj)];rw [← hu];simp [u8s,bs,hj]
def xR(lv:Value)(s:yb):Array Value:=#[lv,.string ⟨#[]⟩,.int .i64 s.cap,.bool s.isCut,.int .i64 s.keep,.bool s.crashed]
def jp(B:Nat)(s:yb)(t:List Nat)(ow:Own)(W:World):Prop:=
 ∃lv,Blk W B (xR lv s) 155/\VG W 5 lv s.log.length (u8s s.log)/\ow B=t/\∀g,lv.ownBlock=some g->ow g=t
theorem jp.loc(B:Nat)(s:yb)(t:List Nat):yK t (jp B s t):=by
 rintro ow ow' W W'⟨lv,hB,hR,o1,o2⟩ hs hk;have kB:=hk B hB.lt (by rw [o1];exact Sub.rfl' t);have kR:∀g,lv.ownBlock=some g->ow' g=ow g/\W'.heap[g]?=W.heap[g]?:=λg hg=>hk g (hR.lt hg) (by rw [o2 g hg];exact Sub.rfl' t)
 exact⟨lv,hB.kept kB.2,hR.kept (λg hg=>(kR g hg).2),kB.1.trans o1,λg hg=>(kR g hg).1.trans (o2 g hg)⟩
def Jz(B:Nat)(s:yb)(t:List Nat)(ow:Own)(w:World)(v:Value)(e:Ending)(w':World):Prop:=
 e=.returned v/\∃ow',zq t ow w ow' w'/\jp B s t ow' w'
theorem zcH {B:Nat}{s s':yb}{lv:Value}{t:List Nat}{ow:Own}{W W':World}(hR:VG W 5 lv s.log.length (u8s s.log))(hB:Blk W B (xR lv s) 155)(o1:ow B=t)(o2:∀g,lv.ownBlock=some g->ow g=t)
 (hM:Mod (λk=>k=B) W W') (hB':Blk W' B (xR lv s') 155) (hl:s'.log=s.log):zq t ow W ow W'/\jp B s' t ow W':=by
 refine⟨⟨hM.mono (λk _ e=>by subst e;rw [o1];exact Sub.rfl' t),λ_ _=>rfl⟩,lv,hB',?_,o1,o2⟩;rw [hl];exact hR.kept (λg hg=>hM.block g (hR.lt hg) (λe=>hR.ne_blk hB (by decide) hg e))
def zaZ(c:Int)(t:List Nat)(ow:Own)(w:World)(e:Ending)(w':World):Prop:=
 ∃B ow',e=.returned (.tuple #[.pointer (some ⟨B,0,none⟩),.int .i64 0])/\zq t ow w ow' w'/\Below w.heap.size w w'/\jp B (qC c) t ow' w'/\w.heap.size<=B
theorem zgY(c:Int)(h1:64<=c)(h2:c<=1048576)(t:List Nat)(ow:Own)(w:World):Calls prog 42 #[.int .i64 c] w (zaZ c t ow w):=by
 have t1:decide (c<64)=false:=by simp;omega
 have t2:decide (1048576<c)=false:=by simp;omega
 go_enter func42,ntmps42
 go_wp2;go_ret2
 refine⟨w.heap.size,ow.ext w.heap.size (λk=>k=w.heap.size) t,rfl,⟨Mod.alloc _ _ _,λk hk=>Own.ext_old hk⟩,pbx,⟨.slice none 0 0,Blk.new rfl,zd0 _ _,Own.ext_new (N0 _) rfl,by simp [Value.ownBlock]⟩,N0 _⟩
theorem zj1(B:Nat)(s:yb)(t:List Nat)(ow:Own)(src:Value)(d:List UInt8)(w:World)(h:jp B s t ow w)(hm:Src w src 1 d.length (u8s d))(hl:s.log.length+d.length<=1073741824):
 Calls prog 233 #[.pointer (some ⟨B,0,none⟩),src] w (Jz B {s with log:=s.log++d} t ow w (.tuple #[])):=by
 obtain⟨lv,hB,hR,o1,o2⟩:=h;unfold xR at hB;have e0:=hB.cell;have l0:=hB.lt;obtain⟨ma,mc,rfl⟩:=hm.shape;obtain⟨ha,hc,rfl⟩:=hR.shape;obtain⟨lv',W3,hrun,hrow,hgr,hown⟩:=zcG zgm hR hm (zj0 d) hl 49;have hneB:(Value.slice ha s.log.length hc).ownBlock≠some B:=λe=>(hR.ne_blk hB (by decide) e) rfl
 have k3:=hB.kept (hgr.block B hB.lt (λe=>hneB e.symm));have f3:=k3.frozen;have l3:=k3.lt;have c3:=k3.cell;obtain⟨sa,sc,rfl⟩:=hrow.shape;clear hm;replace hB:=hid hB;replace hR:=hid hR;replace hrow:=hid hrow;replace k3:=hid k3;replace o2:=hid o2;replace hown:=hid hown;replace hneB:=hid hneB
 go_enter func233,ntmps233
 go_wp2_with (at_builtin
              refine zw rfl _ _ _ rfl rfl rfl hrun ?_)
 go_end0
 have hg5:∀g,(Value.slice sa (s.log.length+d.length) sc).ownBlock=some g->((Value.slice ha s.log.length hc).ownBlock=some g∨g=w.heap.size):=λg hg=>by
  have:=hown.out;rw [hg] at this
  rcases this with h|h
  ·exact .inl h.symm
  ·right;simpa using h
 refine⟨rfl,ow.ext w.heap.size (λk=>(Value.slice sa (s.log.length+d.length) sc).ownBlock=some k) t,⟨?_,λk hk=>Own.ext_old hk⟩,.slice sa (s.log.length+d.length) sc,k3.out.set (o:=0) _,?_,?_,?_⟩
 ·exact(Mod.grown (X:=λk=>Sub t (ow k)) hgr (λk h=>by rw [o2.out k h];exact Sub.rfl' t)).thenSet (p:=⟨B,0,none⟩) (by simp only [o1];exact Sub.rfl' t) _
 ·simp only [N1,X0]
  refine hrow.out.kept (λg hg=>N4 _ _ _ _ (λe=>?_));have e':g=B:=e;subst e'
  rcases hg5 g hg with h|h
  ·exact hneB.out h
  ·omega
 ·rw [Own.ext_old l0,o1]
 ·intro g hg
  rcases hg5 g hg with h|h
  ·rw [Own.ext_old (hR.out.lt h),o2.out g h]
  ·rw [Own.ext_new (by omega) hg]
theorem YQ(B:Nat)(s:yb)(t:List Nat)(ow:Own)(r:List UInt8)(k:Int)(w:World)(h:jp B s t ow w)(hk0:0<=k)(hk:k<=r.length)(hl:s.log.length+r.length<=1073741824):
 Calls prog 178 #[.pointer (some ⟨B,0,none⟩),.string (bs r),.int .i64 k] w (Jz B {s with log:=s.log++r.take k.toNat} t ow w (.tuple #[])):=by
 have hex:=vA r k.toNat;have hsz:=zJ r;have y1:k<=((bs r).size:Int):=by rw [hsz];exact hk
 have htl:(r.take k.toNat).length<=r.length:=by rw [N7];omega
 generalize r.take k.toNat=d at*
 obtain⟨W,c,hrun,hb,hsrc,hW⟩:=zeR d w;have hcall:=zj1 B s t ow _ d W ((jp.loc B s t).below h hb) hsrc (by omega);replace hcall:=hid hcall;replace hsz:=hid hsz;replace h:=hid h;clear hsrc
 go_enter func178,ntmps178
 go_wp2_with fail
 refine hcall.out.mono ?_;rintro e w1⟨rfl,ow1,hs1,h1⟩;go_wp2;go_end0
 exact⟨rfl,ow1,(zq.of_below t ow hb).trans hs1,h1⟩
end
section
open Go
theorem yW(n:Nat):yn (le4 n)=n % 4294967296:=by
 unfold yn;rw [if_pos (zY n)];unfold le4;simp only [List.foldr_cons,List.foldr_nil,UInt8.toNat_ofNat'];omega
theorem qG(n:Nat):(le4 n).length=4:=rfl
theorem QW(l:List UInt8):(qB l).length=l.length+4:=by simp [qB,qG]
theorem VH(l:List UInt8):xA (qB l)=some l:=by
 unfold xA;rw [if_neg (by rw [QW];omega)];have h1:(qB l).length - 4=l.length:=by rw [QW];omega
 rw [h1];have h2:(qB l).take l.length=l:=by unfold qB;rw [List.take_left'];rfl
 have h3:(qB l).drop l.length=le4 (zgD l):=by unfold qB;rw [List.drop_left'];rfl
 rw [h2,h3,if_pos rfl]
theorem JA {d:List UInt8}(h:d.length<=4096):zG d=(qB ([52] ++le4 d.length++d),0):=by unfold zG;rw [if_neg (by omega)]
theorem yt {d:List UInt8}(h:d.length<=4096):(zG d).1.length=d.length+9:=by
 rw [JA h,QW];simp [qG];omega
theorem VI {d:List UInt8}(h:d.length<=4096)(k:Nat)(rest:List UInt8)(hk:5<=k):(((zG d).1++rest).take k).head?=some 52/\((((zG d).1++rest).take k).drop 1).take 4=le4 d.length:=by
 rw [JA h];obtain⟨m,rfl⟩:∃m,k=m+5:=⟨k - 5,by omega⟩;unfold qB le4;simp
theorem za0 {d:List UInt8}(h:d.length<=4096)(rest:List UInt8):jm ((zG d).1++rest)=(d,9+d.length):=by
 have hl:=yt h;have hh:=VI h ((zG d).1++rest).length rest (by rw [N1];omega);rw [List.take_length] at hh;have hg:yn ((((zG d).1++rest).drop 1).take 4)=d.length:=by rw [hh.2,yW];omega
 unfold jm;rw [if_neg (by rw [N1];omega),if_neg (by rw [hh.1];simp),hg,if_neg (by omega),if_neg (by rw [N1];omega)];have ht:((zG d).1++rest).take (9+d.length)=(zG d).1:=by rw [List.take_left'];omega
 rw [ht,JA h,VH];simp [le4]
theorem zeS {d:List UInt8}(h:d.length<=4096)(k:Nat)(hk:k<(zG d).1.length):(jm ((zG d).1.take k)).2=0:=by
 have hl:=yt h;unfold jm;have hlen:((zG d).1.take k).length=k:=by rw [N7];omega
 by_cases h9:k<9
 ·rw [if_pos (by rw [hlen];exact h9)]
 ·have hh:=VI h k [] (by omega)
  rw [List.append_nil] at hh;have hg:yn ((((zG d).1.take k).drop 1).take 4)=d.length:=by rw [hh.2,yW];omega
  rw [if_neg (by rw [hlen];exact h9),if_neg (by rw [hh.1];simp),hg,if_neg (by omega),if_pos (by rw [hlen];omega)]
theorem JB:(jm []).2=0:=rfl
def recs(l:List (List UInt8)):List UInt8:=l.flatMap λd=>(zG d).1
def zd1(l:List (List UInt8)):Prop:=∀d∈l,d.length<=4096
theorem za1(l:List (List UInt8))(d:List UInt8):recs (l++ [d])=recs l++(zG d).1:=by simp [recs]
theorem zd2 {l:List (List UInt8)}(h:zd1 l):9*l.length<=(recs l).length:=by
 induction l with
 |nil=>simp [recs]
 |cons d l ih=>
  have h1:=yt (h d (List.mem_cons_self ..));have h2:=ih (λx hx=>h x (U7 _ hx));have h3:recs (d::l)=(zG d).1++recs l:=rfl;rw [h3,N1,List.length_cons];omega
theorem VJ {tail:List UInt8}(ht:(jm tail).2=0):∀(l:List (List UInt8)) (n:Nat),zd1 l->l.length<n->xq n (recs l++tail)=(l,(recs l).length)
 | [],n+1,_,_=>by
   have h3:recs [] ++tail=tail:=rfl;rw [h3];unfold xq;rw [if_pos ht];rfl
 | [],0,_,h=>by simp at h
 |d::l,0,_,h=>by simp at h
 |d::l,n+1,hok,hn=>by
  have h1:=hok d (List.mem_cons_self ..);have h3:recs (d::l)++tail=(zG d).1++(recs l++tail):=by simp [recs]
  have hf:=za0 h1 (recs l++tail);have hd:((zG d).1++(recs l++tail)).drop (9+d.length)=recs l++tail:=by rw [List.drop_left'];have:=yt h1;omega
  rw [h3];unfold xq;rw [hf];simp only;rw [if_neg (by omega),hd,VJ ht l n (λx hx=>hok x (U7 _ hx)) (by simp at hn;omega)];have h4:recs (d::l)=(zG d).1++recs l:=rfl;rw [h4,N1,yt h1];simp;omega
def zeT(s:yb)(l:List (List UInt8)):Prop:=zd1 l/\∃tail,s.log=recs l++tail/\(jm tail).2=0/\(s.crashed=false->tail=[])
theorem QX(cap:Int):zeT (qC cap) []:=⟨(λd hd=>absurd hd (by simp)),[],rfl,JB,λ_=>rfl⟩
theorem zeU {d:List UInt8}(h:(zG d).2=0):d.length<=4096:=by
 unfold zG at h
 split at h
 ·simp at h
 ·omega
theorem X7 {s:yb}{l:List (List UInt8)}(h:zeT s l)(d:List UInt8):
 ((z6 s d).2=0/\s.crashed=false/\(z6 s d).1.crashed=false/\zeT (z6 s d).1 (l++ [d]))∨
 ((z6 s d).2=31/\(z6 s d).1.crashed=true/\(zeT (z6 s d).1 l∨zeT (z6 s d).1 (l++ [d])))∨
 ((z6 s d).2=30/\(z6 s d).1=s):=by
 obtain⟨hok,tail,hl,ht,hc⟩:=h;unfold z6
 split
 ·rename_i hcr
  exact .inr (.inl ⟨rfl,hcr,.inl ⟨hok,tail,hl,ht,hc⟩⟩)
 ·rename_i hcr
  have hcr':s.crashed=false:=by simpa using hcr
  have htl:=hc hcr';subst htl;rw [List.append_nil] at hl
  split
  ·exact .inr (.inr ⟨rfl,rfl⟩)
  ·rename_i hr
   have hd:=zeU (Decidable.not_not.1 hr)
   have hok2:zd1 (l++ [d]):=by
    intro x hx
    rcases List.mem_append.1 hx with h|h
    ·exact hok x h
    ·simp at h;rw [h];exact hd
   split
   ·exact .inr (.inr ⟨rfl,rfl⟩)
   ·split
    ·refine .inl ⟨rfl,hcr',hcr',hok2,[],?_,JB,λ_=>rfl⟩
     show s.log++_=_
     rw [hl,za1,List.append_nil]
    ·refine .inr (.inl ⟨rfl,rfl,?_⟩)
     rcases Nat.lt_or_ge (min s.keep ((zG d).1.length:Int)).toNat (zG d).1.length with h|h
     ·refine .inl ⟨hok,(zG d).1.take (min s.keep ((zG d).1.length:Int)).toNat,?_,zeS hd _ h,λh=>by cases h⟩
      show s.log++_=_
      rw [hl]
     ·refine .inr ⟨hok2,[],?_,JB,λh=>by cases h⟩
      show s.log++_=_
      rw [hl,za1,List.take_of_length_le h,List.append_nil]
theorem ziK {s:yb}{l:List (List UInt8)}(h:zeT s l)(k:Int):zeT (zjX s k).1 l/\(zjX s k).1.crashed=s.crashed:=by
 unfold zjX
 split
 ·exact⟨h,rfl⟩
 ·split
  ·exact⟨h,rfl⟩
  ·exact⟨h,rfl⟩
theorem za2 {s:yb}{l:List (List UInt8)}(h:zeT s l):(jr s).2=l/\zeT (jr s).1 l/\(jr s).1.crashed=false:=by
 obtain⟨hok,tail,hl,ht,hc⟩:=h;have hlen:=zd2 hok
 have hr:xq s.log.length s.log=(l,(recs l).length):=by
  cases hll:l with
  |nil=>
   cases hs:s.log with
   |nil=>rfl
   |cons b r=>
    have h1:=VJ ht l (b::r).length hok (by rw [hll];simp);rw [← hl,hs,hll] at h1;exact h1
  |cons x y=>
   rw [← hll];have h1:=VJ ht l s.log.length hok (by rw [hl,N1];rw [hll] at hlen⊢;simp at hlen⊢;omega);rw [← hl] at h1;exact h1
 unfold jr;rw [hr];refine⟨rfl,⟨hok,[],?_,JB,λ_=>rfl⟩,rfl⟩
 show s.log.take (recs l).length=recs l++ []
 rw [hl,List.take_left',List.append_nil];rfl
theorem yz {K V:Type} [DecidableEq K](k k':K)(v:V):∀l:List (K×V),zD k' (put k v l)=if k'=k then some v else zD k' l
 | []=>by unfold put zD;split<;>simp_all [zD]
 |(q,u)::l=>by
  have ih:=yz k k' v l;unfold put
  by_cases h:k=q
  ·subst h
   rw [if_pos rfl]
   by_cases h2:k'=k
   ·subst h2;simp [zD]
   ·simp [zD,h2]
  ·rw [if_neg h]
   by_cases h2:k'=q
   ·subst h2
    rw [if_neg (λe=>h e.symm)];simp [zD]
   ·rw [zD,if_neg h2,ih]
    conv=>rhs;rw [zD,if_neg h2]
theorem zd3 {K V:Type} [DecidableEq K] {k:K}{v:V} :∀ {l:List (K×V)},zD k l=some v->put k v l=l
 | [],h=>by cases h
 |(q,u)::l,h=>by
  unfold zD at h;unfold put
  by_cases hq:k=q
  ·subst hq;rw [if_pos rfl] at h⊢;cases h;rfl
  ·rw [if_neg hq] at h⊢;rw [zd3 h]
theorem qj(n:Nat):(le8 n).length=8:=rfl
theorem qp {i:Int}(h:zO i=true):1<=i/\i<=10000:=by simpa [zO] using h
theorem VK(kind:UInt8){i:Int}(h:zO i=true)(more:List UInt8):(xr kind i more).head?=some kind/\yn (((xr kind i more).drop 1).take 4)=i.toNat/\(xr kind i more).drop 5=more/\(xr kind i more).length=5+more.length:=by
 have hp:=qp h;refine⟨rfl,?_,rfl,by unfold xr;simp [qG];omega⟩;have:((xr kind i more).drop 1).take 4=le4 (i.toNat % 4294967296):=rfl;rw [this,yW];omega
theorem X8(kind:UInt8){i:Int}(b:Nat)(hb:b<18446744073709551616)(x:List UInt8):yn (((xr kind i (le8 b++x)).drop 5).take 4)+4294967296*yn (((xr kind i (le8 b++x)).drop 9).take 4)=b/\(xr kind i (le8 b++x)).drop 13=x:=by
 have h1:((xr kind i (le8 b++x)).drop 5).take 4=le4 b:=rfl;have h2:((xr kind i (le8 b++x)).drop 9).take 4=le4 (b / 4294967296):=rfl;rw [h1,h2,yW,yW];exact⟨by omega,rfl⟩
theorem za3 {i:Int}(h:zO i=true){x:List UInt8}(hx:x.length<=4000):jF (xr 100 i x)=some (100,i,0,x):=by
 have hp:=qp h;obtain⟨h1,h2,h3,h4⟩:=VK 100 h x;have hi:((i.toNat:Nat):Int)=i:=Int.toNat_of_nonneg (by omega);unfold jF;rw [if_neg (by omega),h2,hi,if_neg (by rw [h];simp;omega),if_pos h1,h3,if_pos hx]
theorem QY {i:Int}(h:zO i=true){b:Nat}(hb:b<18446744073709551616)(h0:1<=b):jF (xr 112 i (le8 b))=some (112,i,b,[]):=by
 have hp:=qp h;obtain⟨h1,h2,h3,h4⟩:=VK 112 h (le8 b);obtain⟨h5,h6⟩:=X8 112 (i:=i) b hb [];rw [List.append_nil] at h5 h6;have hi:((i.toNat:Nat):Int)=i:=Int.toNat_of_nonneg (by omega);have h8:=qj b;unfold jF;rw [if_neg (by omega),h2,hi,if_neg (by rw [h];simp;omega),h1,if_neg (by simp),if_pos (.inl rfl),if_neg (by omega),h6,if_neg (by simp),h5,if_pos ⟨h0,by simp⟩];rfl
theorem zeV {i:Int}(h:zO i=true){b:Nat}(hb:b<18446744073709551616)(h0:1<=b){x:List UInt8}(hx:x.length<=4000):jF (xr 118 i (le8 b++x))=some (118,i,b,x):=by
 have hp:=qp h;obtain⟨h1,h2,h3,h4⟩:=VK 118 h (le8 b++x);obtain⟨h5,h6⟩:=X8 118 (i:=i) b hb x;have hi:((i.toNat:Nat):Int)=i:=Int.toNat_of_nonneg (by omega);have h8:=qj b;rw [N1] at h4;unfold jF;rw [if_neg (by omega),h2,hi,if_neg (by rw [h];simp;omega),h1,if_neg (by simp),if_pos (.inr rfl),if_neg (by omega),h6,if_neg (by simp),h5,if_pos ⟨h0,hx⟩];rfl
theorem QZ {p:xn}{i:Int}{b:Nat}(hb:b<18446744073709551616)(h:(zC p i b).2.2.2=0):yx p (zC p i b).2.2.1=(zC p i b).1/\(zC p i b).2.2.1=xr 112 i (le8 b)/\zO i=true/\1<=b/\(zM p i).1<b/\(zC p i b).1={p with votes:=put i (b,(zM p i).2) p.votes} :=by
 unfold zC at h⊢
 split at h
 ·simp at h
 ·rename_i hi
  rw [if_neg hi];have hi':zO i=true:=by simpa using hi
  split at h
  ·rename_i h1;exact absurd h h1
  ·rename_i h1
   rw [if_neg h1]
   have hv:(yj (zM p i) b)=((b,(zM p i).2),0)/\1<=b/\(zM p i).1<b:=by
    unfold yj at h1⊢
    split at h1
    ·simp at h1
    ·rename_i h2
     rw [if_neg h2]
     split at h1
     ·simp at h1
     ·rename_i h3
      rw [if_neg h3];exact⟨rfl,by omega,by omega⟩
   simp only;rw [hv.1];refine⟨?_,by first|exact rfl|exact trivial,hi',hv.2.1,hv.2.2,by first|exact rfl|exact trivial⟩;unfold yx;rw [QY hi' hb hv.2.1];simp only;rw [if_neg (by decide)]
   have hr:xO 112 (zM p i) b []=(b,(zM p i).2):=by
    unfold xO;rw [if_neg (by simp)];rw [Nat.max_eq_right (by omega)]
   rw [hr,if_neg (λe=>by have:=congrArg Prod.fst e;simp at this;omega)]
theorem zeW {p:xn}{i:Int}{b:Nat}{x:List UInt8}(hb:b<18446744073709551616)(h:(vy p i b x).2.2=0):yx p (vy p i b x).2.1=(vy p i b x).1/\zO i=true/\1<=b/\(zM p i).1<=b/\x.length<=4000/\(vy p i b x).1={p with votes:=put i (b,b,x) p.votes} /\(vy p i b x).2.1=xr 118 i (le8 b++x):=by
 unfold vy at h⊢
 split at h
 ·simp at h
 ·rename_i hi
  rw [if_neg hi];have hi':zO i=true:=by simpa using hi
  split at h
  ·rename_i h1;exact absurd h h1
  ·rename_i h1
   rw [if_neg h1]
   have hv:(Yj (zM p i) b x)=((b,b,x),0)/\1<=b/\(zM p i).1<=b/\x.length<=4000/\(zM p i).2.1<=(zM p i).1:=by
    unfold Yj at h1⊢
    split at h1
    ·simp at h1
    ·rename_i h2
     rw [if_neg h2]
     have h2':j7 (zM p i)=true/\1<=b/\x.length<=4000:=by
      refine⟨?_,by omega,by omega⟩
      cases hvo:j7 (zM p i)
      ·exact absurd (.inl hvo) h2
      ·rfl
     split at h1
     ·simp at h1
     ·rename_i h3
      rw [if_neg h3]
      have h4:(zM p i).2.1<=(zM p i).1:=by
       have:=h2'.1;unfold j7 at this;simp only [Bool.and_eq_true,decide_eq_true_eq] at this;exact this.1.2
      exact⟨rfl,h2'.2.1,by omega,h2'.2.2,h4⟩
   simp only;rw [hv.1];refine⟨?_,hi',hv.2.1,hv.2.2.1,hv.2.2.2.1,by first|exact rfl|exact trivial,by first|exact rfl|exact trivial⟩;unfold yx;rw [zeV hi' hb hv.2.1 hv.2.2.2.1];simp only;rw [if_neg (by decide)]
   have hr:xO 118 (zM p i) b x=(b,b,x):=by
    unfold xO;rw [if_pos ⟨rfl,by omega⟩,Nat.max_eq_right (by omega)]
   rw [hr]
   split
   ·rename_i heq
    have hl:zD i p.votes=some (b,b,x):=by
     unfold zM at heq
     cases hlk:zD i p.votes with
     |none=>rw [hlk] at heq;simp at heq;omega
     |some u=>rw [hlk] at heq;simp at heq;rw [heq]
    show p={p with votes:=put i (b,b,x) p.votes}
    rw [zd3 hl]
   ·rfl
theorem zcI {p:xn}{i:Int}{x:List UInt8}(h:(zS p i x).2.2=0)(hr:(zS p i x).2.1≠ []):yx p (zS p i x).2.1=(zS p i x).1/\zD i p.known=none/\zO i=true/\x.length<=4000/\(zS p i x).1.known=put i x p.known/\(zS p i x).1.votes=p.votes/\(zS p i x).2.1=xr 100 i x:=by
 have hq:(zS p i x).2.1=xr 100 i x/\zO i=true/\x.length<=4000/\zD i p.known=none/\(zS p i x).1={p with known:=put i x p.known,length:=Jv (put i x p.known) 10000 p.length} :=by
  unfold zS at h hr⊢
  split at h
  ·simp at h
  ·rename_i h1
   rw [if_neg h1] at hr⊢
   have h1':zO i=true/\x.length<=4000:=by
    refine⟨?_,by omega⟩
    cases hi:zO i
    ·exact absurd (.inl hi) h1
    ·rfl
   cases hl:zD i p.known with
   |none=>exact⟨rfl,h1'.1,h1'.2,rfl,rfl⟩
   |some y=>
    rw [hl] at hr;simp only at hr
    split at hr<;>simp at hr
 obtain⟨h1,h2,h3,h4,h5⟩:=hq;refine⟨?_,h4,h2,h3,by rw [h5],by rw [h5],h1⟩;rw [h1];unfold yx;rw [za3 h2 h3];simp
theorem zeX {p:xn}{i:Int}{x:List UInt8}(h:(zS p i x).2.2≠0∨(zS p i x).2.1=[]):(zS p i x).1=p:=by
 unfold zS at h⊢
 by_cases h1:zO i=false∨4000<x.length
 ·rw [if_pos h1]
 ·rw [if_neg h1] at h⊢
  cases hl:zD i p.known with
  |none=>rw [hl] at h;simp [xr] at h
  |some y=>simp only;split<;>rfl
end
open Go Go.RowKit Go.Shelf Go.Extern.Stop Go.Stop Go.Extern
theorem zkP {a b:List UInt8} :((bs a).toList==(bs b).toList)=decide (a=b):=by
 rw [yC,yC]
 by_cases h:a=b
 ·simp [h]
 ·simp [h]
theorem zj2(a b:zy)(w:World):(binOp .neq 78 (vo a) (vo b)).run prog w=.ok (.bool (decide (a≠b))) w:=by
 obtain⟨⟨i,c⟩,d⟩:=a;obtain⟨⟨i',c'⟩,d'⟩:=b;unfold vo;rw [run_neq_struct];simp [go_sem,zkP]
 by_cases h1:i=i'<;>by_cases h2:c=c'<;>by_cases h3:d=d'<;>simp [h1,h2,h3] <;>omega
theorem zj3(a b:qZ)(w:World):(binOp .neq 197 (Js a) (Js b)).run prog w=.ok (.bool (decide (a≠b))) w:=by
 obtain⟨i,c,d⟩:=a;obtain⟨i',c',d'⟩:=b;unfold Js;rw [run_neq_struct];simp [go_sem]
 by_cases h1:i=i'<;>by_cases h2:c=c'<;>by_cases h3:d=d'<;>simp [h1,h2,h3] <;>omega
