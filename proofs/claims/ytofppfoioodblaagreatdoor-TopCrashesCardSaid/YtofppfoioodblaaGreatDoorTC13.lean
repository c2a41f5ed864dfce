/- PARTS OF THE PROOF. -/
import Derived.Lib.ConvBytes
import Derived.Test.YtofppfoioodblaaGreatDoorTC12
set_option maxRecDepth 8000
set_option maxHeartbeats 4000000
open Go.Proofs.Tryz
namespace Go.Proofs.YtofppfoioodblaaGreatDoor
section
open Go Go.RowKit Go.Shelf Go.Extern.Stop Go.Stop Go.Extern
attribute [local go_sem] Oper.semAt_some zB zp
theorem zgf(v:Value)(ts:List (List UInt8))(w:World)(hv:Src w v 1 ts.length (yR ts))(h0:0<ts.length)(hl:ts.length<=1000000)(hb:zay ts ts.length<=1073741824):Calls prog 292 #[v] w λe w'=>
 e=.returned (.string (bs ts.flatten))/\w'=w:=by
 rcases hv.2 with⟨rfl,hn⟩|⟨b,off,cap,rfl,hc,hr⟩
 ·omega
 clear hv h0
 go_enter func292,ntmps292
 go_wp2
 go_loop [3,8] (λp3 p8=>∃k:Nat,k<=ts.length/\p8=.int .i64 k/\p3=.string (bs (ts.take k).flatten)) (λ_ p8=>ts.length - (intOf p8).toNat)
 case atStart=>exact⟨0,Nat.zero_le _,rfl,by simp;rfl⟩
 case round=>
  obtain⟨k,hk,rfl,rfl⟩:=hrel
  by_cases hlt:k<ts.length
  ·obtain⟨x,hx⟩:∃x,ts[k]?=some x:=⟨_,N3 hlt⟩
   have ae:w.cell? ⟨b,off+k,none⟩=some (.string (bs x)):=hr k _ (by simp [yR,hx]);have ad:=V9 ts (k+1);have aa:=Ye ts k x hx;rw [Yf hx] at ad;have ac:=JA (ts.take k).flatten x (by have h2:zay ts k=(ts.take k).flatten.length:=rfl;omega) w;rw [← aa] at ac;replace aa:=hid aa;replace hx:=hid hx;clear hr;go_wp2
   go_round
   case rel=>exact⟨k+1,by omega,by go_num,rfl⟩
   case measure=>simp [intOf];omega
  obtain rfl:k=ts.length:=by omega
  rw [List.take_length];clear hr;go_wp2;go_ret
  exact⟨rfl,rfl⟩
theorem zgg(s:ByteArray)(w:World):Calls prog 209 #[.string s] w λe w'=>
 e=.returned (.func (.func 257) #[] #[.pointer (some ⟨w.heap.size,0,none⟩)])/\w'=w.alloc (.cells #[.string s] 9):=by
 go_enter func209,ntmps209
 go_wp2;go_ret
 exact⟨rfl,rfl⟩
theorem xw(s:List UInt8):(jy s).2=0∨(9<=(jy s).2/\(jy s).2<=s.length):=by
 unfold jy
 split
 ·exact .inl rfl
 split
 ·exact .inl rfl
 split
 ·exact .inl rfl
 split
 ·exact .inl rfl
 split
 ·exact .inl rfl
 right;simp only;omega
theorem zdT(s:List UInt8):(jy s).1.length<=s.length:=by
 unfold jy
 split
 ·simp
 split
 ·simp
 split
 ·simp
 split
 ·simp
 rename_i h9 _ _ h
 split
 ·simp
 rename_i b hb
 have:b.length<=s.length:=by
  unfold xU at hb
  split at hb
  ·cases hb
  split at hb
  ·cases hb;simp only [N7];omega
  cases hb
 simp only [U3];omega
def zkX(v:Value):Nat:=match v with| .string b=>b.size|_=>0
def zfd(x:List UInt8×Nat):Array Value:=#[.string (bs x.1),.int .i64 (x.2:Nat)]
theorem zdU(cb:Nat)(s:List UInt8)(hl:s.length<=1073741824):
 Qr Fence.wide 2 prog 257 #[.pointer (some ⟨cb,0,none⟩)] zfd
  (λ(r:List UInt8×Bool) x=>r.2=false/\x=jy r.1/\r.1.length<=s.length) (λr x=>(r.1.drop x.2,decide (x.2=0))) (λr=>r.2=true)
  (λ_ W=>Blk W cb #[.string (bs s)] 9) (s,false):=by
 intro lp J Jx W hJ hJx hRd hY h0;have e0:=(hRd _ _ _ h0).cell;have hF:Fence.wide.fn 257:=trivial;have aj:Fence.wide.round=none:=rfl;refine callsIn_of_wp func257 rfl hF ?_ aj;simp only [ntmps257,R8,Nat.reduceAdd,Nat.reduceSub]
 gi_wp2
 gi_loopw [3] (λp3 wr=>∃(r:List UInt8)(X:Nat->Prop),p3=.string (bs r)/\r.length<=s.length/\J (r,false) X wr) (λp3 _=>zkX p3)
 case atStart=>exact⟨s,_,rfl,N0 _,h0⟩
 case round=>
  obtain⟨r,X,rfl,hr,ak⟩:=hrel;clear e0;have ac:=zL r;have af:=xw r;have ag:=zdT r;obtain⟨⟨d,n⟩,hf⟩:∃x,jy r=x:=⟨_,rfl⟩;rw [hf] at af ag;simp only at af ag;have aa:=λW=>ziq r (by omega) W
  rw [hf] at aa;unfold zfc at aa;simp only at aa;replace aa:=hid aa
  gi_wp2_with fail
  refine(callsIn_wide.2 (aa.out _)).mono ?_;rintro e w1⟨rfl,ai⟩;have ah:J (r,false) X w1:=hJ _ _ _ _ _ ak (Mod.of_below X ai) (λk h=>.inl h);obtain⟨fn,tmps,assign,body,hy,hR⟩:=hY (r,false) (d,n) X w1 ah ⟨rfl,hf.symm,hr⟩;unfold zfd at hy;simp only at hy;replace hf:=hid hf
  by_cases hn:n=0
  ·subst hn
   have t0:((0:Int)==0)=true:=rfl;rw [show((0:Nat):Int)=0 from rfl] at hy;replace ac:=hid ac
   gi_wp2
   refine hR.mono ?_;rintro e W'(⟨rfl,ae, -⟩|⟨rfl,ad⟩)
   ·clear hR hy
    gi_wp2
    refine bodyPost_ret (results_none rfl _ _ _) rfl ?_;exact⟨⟨_,rfl⟩,.inl ⟨_,_,rfl,ae⟩⟩
   gi_wp2
   refine bodyPost_ret (results_none rfl _ _ _) rfl ?_;exact⟨⟨_,rfl⟩,.inr ⟨_,ad⟩⟩
  have t0:((n:Int)==0)=false:=by simpa using hn
  have al:9<=n/\n<=r.length:=by omega
  have y1:(n:Int)<=((bs r).size:Int):=by omega
  have hx:=ju r n;replace ac:=hid ac
  gi_wp2
  refine hR.mono ?_;rintro e W'(⟨rfl,ae, -⟩|⟨rfl,ad⟩)
  ·clear hR hy
   gi_wp2
   go_roundw
   case rel=>exact⟨r.drop n,_,rfl,by simp;omega,by simpa [hn] using ae⟩
   case measure=>simp [zkX,zL];omega
  gi_wp2
  refine bodyPost_ret (results_none rfl _ _ _) rfl ?_;exact⟨⟨_,rfl⟩,.inr ⟨_,ad⟩⟩
theorem zir(b:Nat)(x y z:List UInt8)(w:World)(h0:w.cell? ⟨b,0,none⟩=some (.string (bs x)))(h1:w.cell? ⟨b,1,none⟩=some (.string (bs y)))(h2:w.cell? ⟨b,2,none⟩=some (.string (bs z)))
 (hl:x.length+y.length+z.length<=1073741824):Calls prog 292 #[.slice (some ⟨b,0,none⟩) 3 3] w λe w'=>e=.returned (.string (bs (x++(y++z))))/\w'=w:=by
 have aa:Src w (.slice (some ⟨b,0,none⟩) 3 3) 1 [x,y,z].length (yR [x,y,z]):=by
  refine⟨rfl,.inr ⟨b,0,3,rfl,N0 _,λj u hu=>?_⟩⟩
  match j,hu with
  |0,hu=>cases hu;exact h0
  |1,hu=>cases hu;exact h1
  |2,hu=>cases hu;exact h2
 refine(zgf _ [x,y,z] w aa (by simp) (by simp) (by simp [zay];omega)).mono ?_;rintro e w'⟨rfl,rfl⟩;exact⟨by simp,rfl⟩
theorem zfe(k:UInt8)(W:World)(b:Nat)(h:W.cell? ⟨b,0,none⟩=some (.int .u8 (k.toNat:Int))):(convert 49 9 (.slice (some ⟨b,0,none⟩) 1 1)).run prog W=.ok (.string (bs [k])) W:=by
 rw [run_convert_bytes_arg W 49 5 Tryz.underlying49 Tryz.underlying5 b 0 1 1 [(k.toNat:Int)] rfl (λi hi=>by obtain rfl:i=0:=(by omega);exact h) 9 Tryz.underlying9];have:strOfNums [(k.toNat:Int)]=bs [k]:=by unfold strOfNums bs;simp
 rw [this]
def zdV(r:List UInt8×Int):Value:=.tuple #[.string (bs r.1),.int .i64 r.2]
theorem zgh(d:List UInt8)(hl:d.length<=1073741000)(w:World):Calls prog 232 #[.string (bs d)] w λe w'=>e=.returned (zdV (zH d))/\Below w.heap.size w w':=by
 have ac:=zL d
 by_cases h:4096<d.length
 ·have hr:zH d=([],30):=by unfold zH;rw [if_pos h]
  rw [hr];have t0:decide ((4096:Int)<((bs d).size:Int))=true:=by rw [ac];simp;omega
  replace ac:=hid ac;replace hr:=hid hr
  go_enter func232,ntmps232
  go_wp2;go_ret2
  exact⟨rfl,N2 _ _⟩
 have hr:zH d=(Zb ([52] ++(le4 d.length++d)),0):=by unfold zH;rw [if_neg h,List.append_assoc]
 rw [hr];have t0:decide ((4096:Int)<((bs d).size:Int))=false:=by rw [ac];simp;omega
 have ag:IntKind.u32.wrap ((bs d).size:Int)=((d.length:Nat):Int):=by rw [IntKind.wrap_u32,ac];omega
 have aa:=λW=>ze9 ([52] ++(le4 d.length++d)) (by simp [jd];omega) W
 have ad:([52]:List UInt8).length+(le4 d.length).length+d.length<=1073741824:=by simp [jd];omega
 have ai:∀(W:World)(b:Nat),W.cell? ⟨b,0,none⟩=some (.int .u8 52)->(convert 49 9 (.slice (some ⟨b,0,none⟩) 1 1)).run prog W=.ok (.string (bs [52])) W:=zfe 52;unfold zdV;replace ac:=hid ac;replace hr:=hid hr;replace aa:=hid aa
 go_enter func232,ntmps232
 go_wp2_with fail
 go_region_with (first
  |(go_at_call 134;(with_reducible refine(y9 _ _).mono ?_);rintro e w1 ⟨rfl,hb⟩;have hz:=hb.size;obtain⟨ah,ae⟩:=zbt hb)
  |(go_at_call 292;(with_reducible refine(zir _ [52] (le4 d.length) d _ (by simp) (by simp) (by simp) ad).mono ?_);rintro e w2 ⟨rfl,rfl⟩)
  |(go_at_call 241;refine(aa.out _).mono ?_;rintro e w3 ⟨rfl,af⟩))
 all_goals go_wp2
 all_goals go_ret2
 all_goals exact⟨rfl,pbx⟩
end
section
open Go Go.RowKit
def XD(w:World)(e:TypeId)(v:Value)(n:Nat)(xs:List Value):Prop:=
 xs.length=n/\((v=.slice none 0 0/\n=0)∨
  ∃g cap cur,v=.slice (some ⟨g,0,none⟩) n cap/\w.heap[g]?=some (.cells cur e (0,0))/\n<=cap/\cap<=maxLen/\cap<=cur.size/\cur.toList.take n=xs)
theorem zff(w:World)(e:TypeId):XD w e (.slice none 0 0) 0 []:=⟨rfl,.inl ⟨rfl,rfl⟩⟩
theorem Row.wide {w:World}{e:TypeId}{v:Value}{n:Nat}{xs:List Value}(h:Row w e 1 v n xs):XD w e v n xs:=by
 refine⟨by simpa using h.1,?_⟩
 rcases h.2 with h|⟨g,cap,cur,rfl, -,hg,hc,hm,hs,ht⟩
 ·exact .inl h
 exact .inr ⟨g,cap,cur,rfl,hg,hc,hm,by omega,by simpa using ht⟩
theorem XD.lt {w:World}{e:TypeId}{v:Value}{n:Nat}{xs:List Value}(h:XD w e v n xs){g:Nat}(hg:v.ownBlock=some g):g<w.heap.size:=by
 rcases h.2 with⟨rfl,_⟩|⟨g',cap,cur,rfl,hgg,_⟩
 ·cases hg
 cases hg;exact(N5.1 hgg).1
theorem XD.kept {w w':World}{e:TypeId}{v:Value}{n:Nat}{xs:List Value}(h:XD w e v n xs)(hb:∀g,v.ownBlock=some g->w'.heap[g]?=w.heap[g]?):XD w' e v n xs:=by
 refine⟨h.1,?_⟩
 rcases h.2 with h2|⟨g,cap,cur,rfl,hg,r⟩
 ·exact .inl h2
 exact .inr ⟨g,cap,cur,rfl,(hb g rfl).trans hg,r⟩
theorem XD.type {w:World}{e:TypeId}{v:Value}{n:Nat}{xs:List Value}(h:XD w e v n xs){g:Nat}(hg:v.ownBlock=some g):∃cur,w.heap[g]?=some (.cells cur e (0,0)):=by
 rcases h.2 with⟨rfl,_⟩|⟨g',cap,cur,rfl,hgg,_⟩
 ·cases hg
 cases hg;exact⟨cur,hgg⟩
theorem XD.ne_blk {w:World}{e:TypeId}{v:Value}{n:Nat}{xs:List Value}{B:Nat}{cs:Array Value}{T:TypeId}(h:XD w e v n xs)(hB:Blk w B cs T)(hT:e≠T){g:Nat}(hg:v.ownBlock=some g):g≠B:=by
 rintro rfl;obtain⟨aa,hc⟩:=h.type hg;have:=hc.symm.trans hB;simp at this
 exact hT this.2
theorem XD.shape {w:World}{e:TypeId}{v:Value}{n:Nat}{xs:List Value}(h:XD w e v n xs):∃a c,v=.slice a n c:=by
 rcases h.2 with⟨rfl,rfl⟩|⟨g,cap,cur,rfl,_⟩
 ·exact⟨_,_,rfl⟩
 exact⟨_,_,rfl⟩
theorem XD.src {w:World}{e:TypeId}{v:Value}{n:Nat}{xs:List Value}(h:XD w e v n xs):Src w v 1 n xs:=by
 refine⟨by simpa using h.1,?_⟩
 rcases h.2 with h0|⟨g,cap,cur,rfl,hg,hc,_,hs,ht⟩
 ·exact .inl h0
 refine .inr ⟨g,0,cap,rfl,hc,λj u hu=>?_⟩
 have hj:=(N6.1 hu).1;rw [h.1] at hj;have hB:Blk w g cur e:=hg;rw [Nat.zero_add,hB.cell,← hu,← ht,List.getElem?_take,if_pos hj];simp
theorem XD.clip {w:World}{e:TypeId}{a:Option Addr}{n c:Nat}{xs:List Value}(h:XD w e (.slice a n c) n xs)(k:Nat)(hk:k<=n)(ha:a≠none):XD w e (.slice a k k) k (xs.take k):=by
 rcases h.2 with⟨h0,h1⟩|⟨g,cap,cur,hv,hg,hc,hm,hs,ht⟩
 ·simp at h0;exact absurd h0.1 ha
 cases hv
 refine⟨by rw [N7,h.1];omega,.inr ⟨g,k,cur,rfl,hg,N0 _,by omega,by omega,?_⟩⟩;rw [← ht,List.take_take,Nat.min_eq_left hk]
theorem zdW {P:Program}{t e:TypeId}{z:Value}(T:Yc P t e 1 1 z){w:World}{v src:Value}{n m:Nat}{xs news:List Value}
 (hv:XD w e v n xs) (hs:Src w src 1 m news) (h1:∀u∈news,u.oneCell'=true) (hb:n+m<=1073741824) (ty:TypeId):
 ∃v' w',(Builtin.append_ #[t,t] ty #[v,src]).run P w=.ok v' w'/\XD w' e v' (n+m) (xs++news)/\w.grownBy w' v.ownBlock/\(v'.ownBlock=v.ownBlock∨v'.ownBlock=some w.heap.size):=by
 obtain⟨i,hi,ak,ae,al⟩:=info_parts T.info
 rcases hv.2 with⟨rfl,rfl⟩|⟨g,cap,cur,rfl,hg,hnc,hcm,hcs,htake⟩
 ·have hx:xs=[]:=N9 hv.1
  subst hx;obtain⟨v',w',h2,h3,h4,h5⟩:=zQ T (z7 w e 1) hs h1 hb ty;exact⟨v',w',h2,h3.wide,h4,h5⟩
 rcases hs.2 with⟨rfl,rfl⟩|⟨b,off,sc,rfl,_,hr⟩
 ·have hn:news=[]:=N9 (by simpa using hs.1)
  subst hn;refine⟨.slice (some ⟨g,0,none⟩) n cap,w,?_,by simpa using hv,⟨rfl,rfl,rfl,N0 _,λ_ _ _=>rfl⟩,.inl rfl⟩;simp [Builtin.append_,run_underlying T.under,sizeOf,typeInfo,hi,Builtin.lenOf,Builtin.firstCells,loadCells,hnc,storeCells]
 have ah:∀j,(⟨b,off,none⟩:Addr).add j=⟨b,off+j,none⟩:=λj=>by unfold Addr.add;split<;>simp_all
 have hl:news.length=m*1:=hs.1;have ac:(xs++news).length=n+m:=by rw [N1,hv.1,hl];omega
 have aa:∀j u,news[j]?=some u->w.cell? ((⟨b,off,none⟩:Addr).add j)=some u:=λj u hu=>by rw [ah];exact hr j u hu
 by_cases hroom:n+m<=cap
 ·have ag:n*i.size+news.length<=cur.size:=by rw [ae,hl];omega
  have ad:=run_append_room (P:=P) w t ty e i T.under hi g n cap cur hg ⟨b,off,none⟩ m sc news (by rw [ae];exact hl) aa h1 hroom ag;refine⟨_,_,ad,⟨ac,.inr ⟨g,cap,_,rfl,setRow_heap w g cur _ e _ hg,hroom,hcm,?_,?_⟩⟩,⟨rfl,rfl,rfl,by simp,λk _ hk=>setRow_other w g k _ (λe=>hk (by simp [Value.ownBlock,e]))⟩,.inl rfl⟩
  ·simp only [List.size_toArray,N1,N7,U3,Array.length_toList,ae]
   omega
  rw [ae,Nat.mul_one,htake,← ac]
  exact List.take_left
 have af:∀j u,xs[j]?=some u->w.cell? ((⟨g,0,none⟩:Addr).add j)=some u:=λj u hu=>by
  have hj:=(N6.1 hu).1;rw [hv.1] at hj;have hB:Blk w g cur e:=hg;have ha:(⟨g,0,none⟩:Addr).add j=⟨g,0+j,none⟩:=by unfold Addr.add;split<;>simp_all
  rw [ha,Nat.zero_add,hB.cell,← hu,← htake,List.getElem?_take,if_pos hj];simp
 have ad:=run_append_grow (P:=P) w t ty e i z T.under hi ak ⟨g,0,none⟩ n cap xs (by rw [ae,Nat.mul_one];exact hv.1) af ⟨b,off,none⟩ m sc news (by rw [ae];exact hl) aa (by omega) (by omega) (growslice_fits (by omega) (by rw [al];omega));have aj:=grownCap_ge w (n+m) cap e;have ai:grownCap w (n+m) cap e<=maxLen:=grownCap_le_maxLen w (n+m) cap e (by unfold maxLen;omega);refine⟨_,_,ad,⟨ac,.inr ⟨w.heap.size,_,_,rfl,heap_alloc_new w.drew _,aj,ai,?_,?_⟩⟩,⟨rfl,rfl,rfl,by simp,λk hk _=>((N2 w.drew.heap.size w.drew).alloc (N0 _) _).block k hk⟩,.inr rfl⟩
 ·simp only [Array.size_append,List.size_toArray,size_zeroCells,T.cells,hl,hv.1]
  omega
 simp only [Array.toList_append,List.append_assoc]
 rw [← List.append_assoc,← ac];exact List.take_left
end
open Go Go.RowKit Go.Shelf Go.Extern.Stop Go.Stop Go.Extern
attribute [local go_sem] Oper.semAt_some zB zp
theorem zlu(l:List UInt8):∀u∈u8s l,u.oneCell'=true:=by
 intro u hu;simp [u8s] at hu;obtain⟨t,_,rfl⟩:=hu;rfl
theorem zis(l:List UInt8):(u8s l).length=l.length:=by simp [u8s]
theorem zgi(l:List UInt8)(w:World):∃W c,(convert 9 49 (.string (bs l))).run prog w=.ok (.slice (some ⟨w.heap.size,0,none⟩) l.length c) W/\Below w.heap.size w W/\Src W (.slice (some ⟨w.heap.size,0,none⟩) l.length c) 1 l.length (u8s l)/\W.heap.size=w.heap.size+1:=by
 have aa:=Go.Lib.run_convert_string_bytes (P:=prog) w 9 49 5 (bs l) Tryz.underlying9 Tryz.underlying49 Tryz.underlying5;rw [zL] at aa;have ac:=Go.Lib.bytesWorld_size w 5 (bs l);refine⟨_,_,aa,⟨?_,?_,?_,by rw [ac];omega,λk hk=>Go.Lib.bytesWorld_at_old w 5 (bs l) k hk⟩,⟨by rw [zis];omega,.inr ⟨w.heap.size,0,_,rfl,grownCap_ge _ _ _ _,λj u hu=>?_⟩⟩,ac⟩
 ·simp [Go.Lib.bytesWorld,World.freeze,World.alloc,World.drew, -World.alloc_eq, -World.drew_eq]
 ·simp [Go.Lib.bytesWorld,World.freeze,World.alloc,World.drew, -World.alloc_eq, -World.drew_eq]
 ·simp [Go.Lib.bytesWorld,World.freeze,World.alloc,World.drew, -World.alloc_eq, -World.drew_eq]
 have hj:=(N6.1 hu).1
 rw [zis] at hj;rw [Nat.zero_add,Go.Lib.bytesWorld_cell w 5 (bs l) j (by rw [zL];exact hj)];rw [← hu];simp [u8s,bs,hj]
def xS(lv:Value)(s:yl):Array Value:=#[lv,.string ⟨#[]⟩,.int .i64 s.cap,.bool s.isCut,.int .i64 s.keep,.bool s.crashed]
def jx(B:Nat)(s:yl)(t:List Nat)(ow:Own)(W:World):Prop:=
 ∃lv,Blk W B (xS lv s) 155/\XD W 5 lv s.log.length (u8s s.log)/\ow B=t/\∀g,lv.ownBlock=some g->ow g=t
theorem jx.loc(B:Nat)(s:yl)(t:List Nat):yI t (jx B s t):=by
 rintro ow ow' W W'⟨lv,hB,hR,o1,o2⟩ hs hk;have kB:=hk B hB.lt (by rw [o1];exact Sub.rfl' t);have kR:∀g,lv.ownBlock=some g->ow' g=ow g/\W'.heap[g]?=W.heap[g]?:=λg hg=>hk g (hR.lt hg) (by rw [o2 g hg];exact Sub.rfl' t)
 exact⟨lv,hB.kept kB.2,hR.kept (λg hg=>(kR g hg).2),kB.1.trans o1,λg hg=>(kR g hg).1.trans (o2 g hg)⟩
def ZQ(B:Nat)(s:yl)(t:List Nat)(ow:Own)(w:World)(v:Value)(e:Ending)(w':World):Prop:=
 e=.returned v/\∃ow',zt t ow w ow' w'/\jx B s t ow' w'
theorem XE {B:Nat}{s s':yl}{lv:Value}{t:List Nat}{ow:Own}{W W':World}(hR:XD W 5 lv s.log.length (u8s s.log))(hB:Blk W B (xS lv s) 155)(o1:ow B=t)(o2:∀g,lv.ownBlock=some g->ow g=t)
 (hM:Mod (λk=>k=B) W W') (hB':Blk W' B (xS lv s') 155) (hl:s'.log=s.log):zt t ow W ow W'/\jx B s' t ow W':=by
 refine⟨⟨hM.mono (λk _ e=>by subst e;rw [o1];exact Sub.rfl' t),λ_ _=>rfl⟩,lv,hB',?_,o1,o2⟩;rw [hl];exact hR.kept (λg hg=>hM.block g (hR.lt hg) (λe=>hR.ne_blk hB (by decide) hg e))
def zcj(c:Int)(t:List Nat)(ow:Own)(w:World)(e:Ending)(w':World):Prop:=
 ∃B ow',e=.returned (.tuple #[.pointer (some ⟨B,0,none⟩),.int .i64 0])/\zt t ow w ow' w'/\Below w.heap.size w w'/\jx B (Zd c) t ow' w'/\w.heap.size<=B
theorem zit(c:Int)(h1:64<=c)(h2:c<=1048576)(t:List Nat)(ow:Own)(w:World):Calls prog 42 #[.int .i64 c] w (zcj c t ow w):=by
 have t1:decide (c<64)=false:=by simp;omega
 have t2:decide (1048576<c)=false:=by simp;omega
 go_enter func42,ntmps42
 go_wp2;go_ret2
 refine⟨w.heap.size,ow.ext w.heap.size (λk=>k=w.heap.size) t,rfl,⟨Mod.alloc _ _ _,λk hk=>Own.ext_old hk⟩,pbx,⟨.slice none 0 0,Blk.new rfl,zff _ _,Own.ext_new (N0 _) rfl,by simp [Value.ownBlock]⟩,N0 _⟩
theorem zlv(B:Nat)(s:yl)(t:List Nat)(ow:Own)(src:Value)(d:List UInt8)(w:World)(h:jx B s t ow w)(hm:Src w src 1 d.length (u8s d))(hl:s.log.length+d.length<=1073741824):
 Calls prog 233 #[.pointer (some ⟨B,0,none⟩),src] w (ZQ B {s with log:=s.log++d} t ow w (.tuple #[])):=by
 obtain⟨lv,hB,hR,o1,o2⟩:=h;unfold xS at hB;have e0:=hB.cell;have l0:=hB.lt;obtain⟨ma,mc,rfl⟩:=hm.shape;obtain⟨ha,hc,rfl⟩:=hR.shape;obtain⟨ah,W3,ae,aa,ag,ad⟩:=zdW zhE hR hm (zlu d) hl 49;have ac:(Value.slice ha s.log.length hc).ownBlock≠some B:=λe=>(hR.ne_blk hB (by decide) e) rfl
 have k3:=hB.kept (ag.block B hB.lt (λe=>ac e.symm));have f3:=k3.frozen;have l3:=k3.lt;have c3:=k3.cell;obtain⟨sa,sc,rfl⟩:=aa.shape;clear hm;replace hB:=hid hB;replace hR:=hid hR;replace aa:=hid aa;replace k3:=hid k3;replace o2:=hid o2;replace ad:=hid ad;replace ac:=hid ac
 go_enter func233,ntmps233
 go_wp2_with (at_builtin
              refine zw rfl _ _ _ rfl rfl rfl ae ?_)
 go_end0
 have af:∀g,(Value.slice sa (s.log.length+d.length) sc).ownBlock=some g->((Value.slice ha s.log.length hc).ownBlock=some g∨g=w.heap.size):=λg hg=>by
  have:=ad.out;rw [hg] at this
  rcases this with h|h
  ·exact .inl h.symm
  right;simpa using h
 refine⟨rfl,ow.ext w.heap.size (λk=>(Value.slice sa (s.log.length+d.length) sc).ownBlock=some k) t,⟨?_,λk hk=>Own.ext_old hk⟩,.slice sa (s.log.length+d.length) sc,k3.out.set (o:=0) _,?_,?_,?_⟩
 ·exact(Mod.grown (X:=λk=>Sub t (ow k)) ag (λk h=>by rw [o2.out k h];exact Sub.rfl' t)).thenSet (p:=⟨B,0,none⟩) (by simp only [o1];exact Sub.rfl' t) _
 ·simp only [N1,QO]
  refine aa.out.kept (λg hg=>N4 _ _ _ _ (λe=>?_));have e':g=B:=e;subst e'
  rcases af g hg with h|h
  ·exact ac.out h
  omega
 ·rw [Own.ext_old l0,o1]
 intro g hg
 rcases af g hg with h|h
 ·rw [Own.ext_old (hR.out.lt h),o2.out g h]
 rw [Own.ext_new (by omega) hg]
theorem Vy(B:Nat)(s:yl)(t:List Nat)(ow:Own)(r:List UInt8)(k:Int)(w:World)(h:jx B s t ow w)(hk0:0<=k)(hk:k<=r.length)(hl:s.log.length+r.length<=1073741824):
 Calls prog 178 #[.pointer (some ⟨B,0,none⟩),.string (bs r),.int .i64 k] w (ZQ B {s with log:=s.log++r.take k.toNat} t ow w (.tuple #[])):=by
 have ah:=vS r k.toNat;have ad:=zL r;have y1:k<=((bs r).size:Int):=by rw [ad];exact hk
 have ai:(r.take k.toNat).length<=r.length:=by rw [N7];omega
 generalize r.take k.toNat=d at*
 obtain⟨W,c,af,hb,ac,hW⟩:=zgi d w;have aa:=zlv B s t ow _ d W ((jx.loc B s t).below h hb) ac (by omega);replace aa:=hid aa;replace ad:=hid ad;replace h:=hid h;clear ac
 go_enter func178,ntmps178
 go_wp2_with fail
 refine aa.out.mono ?_;rintro e w1⟨rfl,ae,ag,h1⟩;go_wp2;go_end0
 exact⟨rfl,ae,(zt.of_below t ow hb).trans ag,h1⟩
theorem ziu(B:Nat)(s:yl)(t:List Nat)(ow:Own)(w:World)(h:jx B s t ow w)(hl:s.log.length<=1073741824):
 Calls prog 177 #[.pointer (some ⟨B,0,none⟩)] w λe w'=>e=.returned (.int .i64 s.log.length)/\Below w.heap.size w w':=by
 obtain⟨lv,hB,hR,o1,o2⟩:=h;unfold xS at hB;obtain⟨ha,hc,rfl⟩:=hR.shape;have aa:IntKind.i64.wrap (s.log.length:Int)=(s.log.length:Int):=by rw [N8];omega
 clear hR o1 o2
 go_enter func177,ntmps177
 go_wp2_with fail
 refine zd [O 0,O 1,O 2,O 3,O 4,O 5,O 6,O 7,O 8,O 9,O 10,O 11] none (λw'=>Blk w' B #[.slice ha s.log.length hc,.string ⟨#[]⟩,.int .i64 s.cap,.bool s.isCut,.int .i64 s.keep,.bool s.crashed] 155/\True) ⟨hB.drew,trivial⟩ ?_
 refine Wb ?_
 refine ze ?_;go_wp2;go_ret
 exact⟨rfl,pbx⟩
theorem ziv(B:Nat)(s:yl)(t:List Nat)(ow:Own)(k:Int)(w:World)(h:jx B s t ow w):
 Calls prog 106 #[.pointer (some ⟨B,0,none⟩),.int .i64 k] w (ZQ B (zdf s k).1 t ow w (.int .i64 (zdf s k).2)):=by
 obtain⟨lv,hB,hR,o1,o2⟩:=h;have hw:=λs' W'=>XE (s':=s') (W':=W') hR hB o1 o2
 have h0:jx B s t ow w:=⟨lv,hB,hR,o1,o2⟩;unfold xS at hB hw;have e0:=hB.cell;have f0:=hB.frozen;have l0:=hB.lt;obtain⟨log,cap,aa,keep,cr⟩:=s;clear hR o1 o2;replace hw:=hid hw;replace hB:=hid hB;replace h0:=hid h0;simp only at e0
 cases cr
 ·by_cases hk:k<0
  ·have hc:zdf ⟨log,cap,aa,keep,false⟩ k=(⟨log,cap,aa,keep,false⟩,2):=by unfold zdf;rw [if_neg (by simp),if_pos hk]
   rw [hc];have t1:decide (k<0)=true:=by simpa using hk
   replace hc:=hid hc
   go_enter func106,ntmps106
   go_wp2;go_ret
   exact⟨rfl,ow,zt.refl _ _ _,h0.out⟩
  have hc:zdf ⟨log,cap,aa,keep,false⟩ k=(⟨log,cap,true,k,false⟩,0):=by unfold zdf;rw [if_neg (by simp),if_neg hk]
  rw [hc];have t1:decide (k<0)=false:=by simpa using hk
  replace hc:=hid hc
  go_enter func106,ntmps106
  go_wp2;go_ret
  have hq:=hw.out ⟨log,cap,true,k,false⟩ ((w.setCell ⟨B,3,none⟩ (.bool true)).setCell ⟨B,4,none⟩ (.int .i64 k)) (((Mod.refl (λk=>k=B) w).thenSet (p:=⟨B,3,none⟩) rfl _).thenSet (p:=⟨B,4,none⟩) rfl _) ((hB.out.set (o:=3) (.bool true)).set (o:=4) (.int .i64 k)) rfl;exact⟨rfl,ow,hq.1,hq.2⟩
 have hc:zdf ⟨log,cap,aa,keep,true⟩ k=(⟨log,cap,aa,keep,true⟩,31):=by unfold zdf;rw [if_pos rfl]
 rw [hc];replace hc:=hid hc
 go_enter func106,ntmps106
 go_wp2;go_ret
 exact⟨rfl,ow,zt.refl _ _ _,h0.out⟩
theorem zdX(B:Nat)(s:yl)(t:List Nat)(ow:Own)(d:List UInt8)(w:World)(h:jx B s t ow w)(hc:vP s)(hd:d.length<=1073741000):
 Calls prog 176 #[.pointer (some ⟨B,0,none⟩),.string (bs d),.int .i64 s.log.length,.func (.func 178) #[.pointer (some ⟨B,0,none⟩)] #[]] w (ZQ B (zT s d).1 t ow w (.int .i64 (zT s d).2)):=by
 obtain⟨lv,hB,hR,o1,o2⟩:=h;have h0:jx B s t ow w:=⟨lv,hB,hR,o1,o2⟩;unfold xS at hB;have e0:=hB.cell;have l0:=hB.lt;obtain⟨log,cap,ag,keep,cr⟩:=s;obtain⟨au,aq,an⟩:=hc;simp only at au aq an e0;clear hR o1 o2;replace hB:=hid hB;replace h0:=hid h0
 cases cr
 ·have ad:=λW=>zgh d hd W
  obtain⟨⟨r,er⟩,hr⟩:∃x,zH d=x:=⟨_,rfl⟩;rw [hr] at ad;unfold zdV at ad;replace ad:=hid ad;have ah:=zL r
  have aa:zT ⟨log,cap,ag,keep,false⟩ d=if er≠0 then(⟨log,cap,ag,keep,false⟩,30)else if cap<log.length+r.length then(⟨log,cap,ag,keep,false⟩,30)else if ag=false then(⟨log++r,cap,ag,keep,false⟩,0)else(⟨log++r.take (min keep r.length).toNat,cap,false,0,true⟩,31):=by
   unfold zT;simp only [hr];rfl
  have ax:r.length<=4109:=by
   have:r=(zH d).1:=by rw [hr]
   rw [this]
   rcases Nat.lt_or_ge 4096 d.length with h|h
   ·unfold zH;rw [if_pos h];simp
   rw [jS h];omega
  replace hr:=hid hr
  by_cases he:er=0
  ·subst he
   have t1:((0:Int) !=0)=false:=rfl;rw [if_neg (by simp)] at aa;have ay:IntKind.i64.wrap ((log.length:Int)+((bs r).size:Int))=(log.length:Int)+r.length:=by rw [N8,ah];omega
   by_cases hcap:cap<log.length+r.length
   ·rw [if_pos hcap] at aa
    rw [aa];have t2:decide (cap<(log.length:Int)+r.length)=true:=by simpa using hcap
    replace aa:=hid aa;replace ah:=hid ah
    go_enter func176,ntmps176
    go_wp2_with fail
    refine(ad.out _).mono ?_;rintro e w1⟨rfl,ac⟩;have e1:=(hB.out.call ac).cell;have l1:=(hB.out.call ac).lt;clear e0;go_wp2;go_ret
    exact⟨rfl,ow,zt.of_below t ow ac,(jx.loc B _ t).below h0.out ac⟩
   rw [if_neg hcap] at aa
   have t2:decide (cap<(log.length:Int)+r.length)=false:=by simpa using hcap
   cases ag
   ·rw [if_pos rfl] at aa
    rw [aa];replace aa:=hid aa;have ae:=λW hS=>Vy B ⟨log,cap,false,keep,false⟩ t ow r (r.length:Int) W hS (by omega) (Int.le_refl _) (by simp only;omega)
    simp only [Int.toNat_natCast,List.take_length] at ae;replace ae:=hid ae
    go_enter func176,ntmps176
    go_wp2_with fail
    refine(ad.out _).mono ?_;rintro e w1⟨rfl,ac⟩;have e1:=(hB.out.call ac).cell;have l1:=(hB.out.call ac).lt;clear e0;go_wp2_with fail
    refine(ae.out _ ((jx.loc B _ t).below h0.out ac)).mono ?_;rintro e w2⟨rfl,ai,aj,h2⟩;go_wp2;go_ret
    exact⟨rfl,ai,(zt.of_below t ow ac).trans aj,h2⟩
   rw [if_neg (by simp)] at aa
   rw [aa];replace aa:=hid aa;obtain⟨m,hm⟩:∃m,min keep (r.length:Int)=m:=⟨_,rfl⟩;rw [hm];have ao:0<=m:=by omega
   have ap:m<=r.length:=by omega
   have ar:min keep ((bs r).size:Int)=m:=by rw [ah];exact hm
   have ae:=λW hS=>Vy B ⟨log,cap,true,keep,false⟩ t ow r m W hS ao ap (by simp only;omega)
   simp only at ae
   generalize r.take m.toNat=rt at*
   replace ae:=hid ae;replace ah:=hid ah;replace hm:=hid hm
   go_enter func176,ntmps176
   go_wp2_with fail
   refine(ad.out _).mono ?_;rintro e w1⟨rfl,ac⟩;have e1:=(hB.out.call ac).cell;have l1:=(hB.out.call ac).lt;clear e0;go_wp2_with fail
   refine(ae.out _ ((jx.loc B _ t).below h0.out ac)).mono ?_;rintro e w2⟨rfl,ai,aj,⟨aw,af,al,ak,am⟩⟩;have hw:=λs' W'=>XE (s':=s') (W':=W') al af ak am
   unfold xS at af hw;simp only at af hw;have f2:=af.frozen;have l2:=af.lt;have e2:=af.cell;clear e1 al ak am;replace hw:=hid hw;replace af:=hid af;go_wp2;go_ret
   have hq:=hw.out ⟨log++rt,cap,false,0,true⟩ (((w2.setCell ⟨B,3,none⟩ (.bool false)).setCell ⟨B,4,none⟩ (.int .i64 0)).setCell ⟨B,5,none⟩ (.bool true)) ((((Mod.refl (λk=>k=B) w2).thenSet (p:=⟨B,3,none⟩) rfl _).thenSet (p:=⟨B,4,none⟩) rfl _).thenSet (p:=⟨B,5,none⟩) rfl _)
    (((af.out.set (o:=3) (.bool false)).set (o:=4) (.int .i64 0)).set (o:=5) (.bool true)) rfl
   exact⟨rfl,ai,((zt.of_below t ow ac).trans aj).trans hq.1,hq.2⟩
  have t1:(er !=0)=true:=by simpa using he
  rw [if_pos he] at aa;rw [aa];replace aa:=hid aa;replace he:=hid he
  go_enter func176,ntmps176
  go_wp2_with fail
  refine(ad.out _).mono ?_;rintro e w1⟨rfl,ac⟩;go_wp2;go_ret
  exact⟨rfl,ow,zt.of_below t ow ac,(jx.loc B _ t).below h0.out ac⟩
 have aa:zT ⟨log,cap,ag,keep,true⟩ d=(⟨log,cap,ag,keep,true⟩,31):=by unfold zT;rw [if_pos rfl]
 rw [aa];replace aa:=hid aa
 go_enter func176,ntmps176
 go_wp2;go_ret
 exact⟨rfl,ow,zt.refl _ _ _,h0.out⟩
theorem zdY(B:Nat)(s:yl)(t:List Nat)(ow:Own)(d:List UInt8)(w:World)(h:jx B s t ow w)(hc:vP s)(hd:d.length<=1073741000):
 Calls prog 137 #[.pointer (some ⟨B,0,none⟩),.string (bs d)] w (ZQ B (zT s d).1 t ow w (.int .i64 (zT s d).2)):=by
 have hl:s.log.length<=1073741824:=by have:=hc.1;have:=hc.2.1;omega
 have ad:=λW hS=>ziu B s t ow W hS hl
 have ac:=λW hS=>zdX B s t ow d W hS hc hd
 generalize zT s d=R at*
 replace ad:=hid ad;replace ac:=hid ac;replace h:=hid h;replace hc:=hid hc
 go_enter func137,ntmps137
 go_wp2_with fail
 refine zd [O 0,O 1,O 2,O 3,O 4,O 6,O 7,O 8,O 9,E 5,E 10,O 11] none (λw'=>True) trivial ?_
 refine Wk ?_
 refine zc rfl (λK hK=>?_);go_wp2_with fail
 refine(ad.out _ ((jx.loc B s t).below h.out (pbx))).mono ?_;rintro e w1⟨rfl,ag⟩;have aa:Below w.heap.size w w1:=pbx;go_wp2;refine hK.out _ _ (λ_=>trivial) ?_;clear hK K;refine zc rfl (λK hK=>?_);go_wp2_with fail
 refine(ac.out _ ((jx.loc B s t).below h.out aa)).mono ?_;rintro e w2⟨rfl,ae,af,h2⟩;go_wp2;refine hK.out _ _ (λ_=>trivial) ?_;clear hK K
 refine Wk ?_
 refine ze ?_;go_wp2;go_ret
 exact⟨rfl,ae,(zt.of_below t ow aa).trans af,h2⟩
def vX(s:List UInt8):List (List UInt8)×Nat:=xN s.length s
theorem Q7:∀(n m:Nat)(s:List UInt8),s.length<=n->s.length<=m->xN n s=xN m s
 |0,0,s,_,_=>rfl
 |0,m+1,s,h,_=>by
  obtain rfl:s=[]:=N9 (by omega);rfl
 |n+1,0,s,_,h=>by
  obtain rfl:s=[]:=N9 (by omega);rfl
 |n+1,m+1,s,h1,h2=>by
  unfold xN
  by_cases h:(jy s).2=0
  ·rw [if_pos h,if_pos h]
  rw [if_neg h,if_neg h]
  have hs:=xw s;have:=Q7 n m (s.drop (jy s).2) (by simp;omega) (by simp;omega);rw [this]
theorem zgj {s:List UInt8}(h:(jy s).2=0):vX s=([],0):=by
 unfold vX
 cases hs:s.length with
 |zero=>rfl
 |succ n=>unfold xN;rw [if_pos h]
theorem zgk {s:List UInt8}(h:(jy s).2≠0):vX s=((jy s).1::(vX (s.drop (jy s).2)).1,(jy s).2+(vX (s.drop (jy s).2)).2):=by
 have hz:=xw s;unfold vX
 cases hs:s.length with
 |zero=>omega
 |succ n=>
  rw [show xN (n+1) s=((jy s).1::(xN n (s.drop (jy s).2)).1,(jy s).2+(xN n (s.drop (jy s).2)).2)by rw [xN,if_neg h]];rw [Q7 n (s.drop (jy s).2).length (s.drop (jy s).2) (by simp;omega) (N0 _)]
structure Q8(s:List UInt8)(ab gb:Nat)(W0:World)(l:List (List UInt8))(n:Nat)(v:Value)(X:Nat->Prop)(W:World):Prop where
 fr:Fr (λk=>k=ab∨k=gb) W0 X W
 ka:Blk W ab #[v] 107
 kg:Blk W gb #[.int .i64 (n:Nat)] 3
 row:Row W 9 1 v l.length (yR l)
 new:∀g,v.ownBlock=some g->W0.heap.size<=g/\¬X g
theorem Q8.stab {s:List UInt8}{ab gb:Nat}{W0:World}{l:List (List UInt8)}{n:Nat}{v:Value}{X X':Nat->Prop}{W W':World}(h:Q8 s ab gb W0 l n v X W)(ha:ab<W0.heap.size)(hg:gb<W0.heap.size)
 (hm:Mod X W W') (hx:∀k,X' k->X k∨(W.heap.size<=k/\k<W'.heap.size)):Q8 s ab gb W0 l n v X' W' where
 fr:=h.fr.step hm hx
 ka:=h.ka.kept (h.fr.block hm ha)
 kg:=h.kg.kept (h.fr.block hm hg)
 row:=h.row.mod hm (λg hg=>(h.new g hg).2)
 new:=λg hg=>⟨(h.new g hg).1,λhX=>by
  rcases hx g hX with h1|h1
  ·exact(h.new g hg).2 h1
  have:=h.row.lt hg;omega⟩
theorem XF {B:Nat}{w W:World}(h:Below B w W):Below B w W.drew:=h.drew
def zaU(s:List UInt8)(w:World)(e:Ending)(w':World):Prop:=
 ∃v,e=.returned (.tuple #[v,.int .i64 ((vX s).2:Nat)])/\Below w.heap.size w w'/\Src w' v 1 (vX s).1.length (yR (vX s).1)/\∀a l c,v=.slice (some a) l c->w.heap.size<=a.block
theorem Q9(s:List UInt8)(hl:s.length<=1073741824)(w:World):Calls prog 157 #[.string (bs s)] w (zaU s w):=by
 refine zm func157 rfl ?_;simp only [ntmps157,R8,Nat.reduceAdd,Nat.reduceSub];go_wp2;go_step3;go_wp2;go_step3;go_wp2_with fail
 refine(zgg _ _).mono ?_;rintro e w1⟨rfl,rfl⟩;go_wp2_with fail
 obtain⟨W0,aj⟩:∃W0,W0=(((w.alloc (.cells #[.slice none 0 0] 107)).alloc (.cells #[.int .i64 0] 3)).alloc (.cells #[.string (bs s)] 9)):=⟨_,rfl⟩;have bn:W0.heap.size=w.heap.size+3:=by rw [aj];simp
 have a8:Below w.heap.size w W0:=by rw [aj];exact pbx
 have a7:Blk W0 w.heap.size #[.slice none 0 0] 107:=by rw [aj];exact bkx
 have a4:Blk W0 (w.heap.size+1) #[.int .i64 0] 3:=by rw [aj];exact bkx
 have a9:Blk W0 (w.heap.size+1+1) #[.string (bs s)] 9:=by rw [aj];exact bkx
 rw [← aj];clear aj
 refine vg (gf:=257) (lb:=#[.pointer (some ⟨w.heap.size+1+1,0,none⟩)]) rfl (enters_of func257 (by kernel_rfl) rfl)
  (zdU (w.heap.size+1+1) s hl) (λ_=>rfl)
  (λr X W=>r.2=false/\∃l n v,vX s=(l++(vX r.1).1,n+(vX r.1).2)/\n+r.1.length=s.length/\9*l.length<=n/\Q8 s w.heap.size (w.heap.size+1) W0 l n v X W)
  (λc X W=>c=.exit 0/\∃v,Q8 s w.heap.size (w.heap.size+1) W0 (vX s).1 (vX s).2 v X W)
  (λr X X' W W' h hm hx=>by obtain⟨hr,l,n,v,h1,h2,a0,h3⟩:=h;exact⟨hr,l,n,v,h1,h2,a0,h3.stab (by omega) (by omega) hm hx⟩)
  (λc _ X X' W W' h hm hx=>by obtain⟨hc,v,h3⟩:=h;exact⟨hc,v,h3.stab (by omega) (by omega) hm hx⟩)
  (λr X W h=>by obtain⟨hr,l,n,v,h1,h2,a0,h3⟩:=h;exact a9.mod h3.fr.2 (by omega))
  ⟨rfl,[],0,.slice none 0 0,by simp,by simp,by simp,Fr.refl _ _,a7,a4,z7 _ _ _,by simp [Value.ownBlock]⟩
  (λx=>[(6,.string (bs x.1)),(7,.int .i64 (x.2:Nat))]) ?assign ?body ?done ?stop
 case assign=>
  intro l' x W K hK;unfold zfd at hK⊢;rw [vT] at hK⊢
  gi_wp2
  exact hK
 case body=>
  rintro l'⟨r,b⟩⟨d,m⟩ X W⟨hb,l,n,v,ak,hn,bo,hI⟩⟨-,hx,ba⟩ bk _;simp only at hb ak hn hx ba;subst hb;unfold zfd;rw [vT];have ay:=xw r;rw [← hx] at ay;simp only at ay
  by_cases hm:m=0
  ·subst hm
   have hz:=zgj (s:=r) (by rw [← hx]);rw [hz] at ak;have al:vX s=(l,n):=by simpa using ak
   have bc:Q8 s w.heap.size (w.heap.size+1) W0 (vX s).1 (vX s).2 v X W:=by rw [al];exact hI
   clear hI ak al;replace hx:=hid hx;replace hz:=hid hz
   gi_wp2
   exact⟨⟨rfl,v,bc⟩,jJ.refl _ _⟩
  have hz:=zgk (s:=r) (by rw [← hx];exact hm)
  rw [← hx] at hz;simp only at hz;obtain⟨ag,ka,kg,aa,ac⟩:=hI;have t0:((m:Int)==0)=false:=by simpa using hm
  have hw:IntKind.i64.wrap ((n:Int)+(m:Int))=((n+m:Nat):Int):=by rw [N8];omega
  have ea:=ka.cell;have eg:=kg.cell;have lg:=kg.lt;have la:=ka.lt;have bl:=ag.2.size;have a3:l.length+1<=1073741824:=by omega
  have aq:∀g,v.ownBlock=some g->g≠w.heap.size/\g≠w.heap.size+1:=λg hg=>by have:=(ac g hg).1;omega
  obtain⟨v',W3,au,ae,ar,ai⟩:=zQ zmV (aa.below ((N2 _ _).alloc (N0 _) (.cells #[.string (bs d)] 9))) (jP (n:=1) (size:=1) (cap:=1) (Blk.new (w:=W) (cs:=#[.string (bs d)]) (t:=9) rfl) rfl (N0 1)) (zhF [d]) a3 107;have ao:=(ka.alloc (.cells #[.string (bs d)] 9)).kept (ar.block _ (by simp;omega) (λe=>(aq _ e.symm).1 rfl));have ap:=(kg.alloc (.cells #[.string (bs d)] 9)).kept (ar.block _ (by simp;omega) (λe=>(aq _ e.symm).2 rfl));have bf:=ao.frozen;have bj:=ao.cell;have bm:=ao.lt;have be:=ap.cell;have bg:=ap.frozen;have bh:=ap.lt;obtain⟨va,vn,vc,rfl⟩:=aa.shape;obtain⟨sa,sm,sc,rfl⟩:=ae.shape;replace hx:=hid hx;replace hz:=hid hz;replace ak:=hid ak;replace aa:=hid aa;replace ae:=hid ae;replace ai:=hid ai;replace ac:=hid ac;replace aq:=hid aq;clear eg
  gi_wp2_with (gi_at_builtin
               refine j1 rfl _ _ _ rfl rfl rfl au ?_)
  have ax:Mod (λk=>k=w.heap.size∨k=w.heap.size+1∨(Value.slice va vn vc).ownBlock=some k) W ((W3.setCell ⟨w.heap.size,0,none⟩ (.slice sa sm sc)).setCell ⟨w.heap.size+1,0,none⟩ (.int .i64 ((n:Int)+(m:Int)))):=
   ((((Mod.refl (λk=>k=w.heap.size∨k=w.heap.size+1∨(Value.slice va vn vc).ownBlock=some k) W).thenAlloc (.cells #[.string (bs d)] 9)).trans (Mod.grown (X:=λk=>k=w.heap.size∨k=w.heap.size+1∨(Value.slice va vn vc).ownBlock=some k) ar (λk h=>.inr (.inr h))) (λ_ _ e=>e) (λ_ _ e=>e)).thenSet (p:=⟨w.heap.size,0,none⟩) (.inl rfl) _).thenSet (p:=⟨w.heap.size+1,0,none⟩) (.inr (.inl rfl)) _
  have a2:∀g,(Value.slice sa sm sc).ownBlock=some g->((Value.slice va vn vc).ownBlock=some g∨g=W.heap.size+1):=λg hg=>by
   have:=ai.out;rw [hg] at this
   rcases this with h|h
   ·exact .inl h.symm
   right;simpa using h
  have a1:∀g,(Value.slice sa sm sc).ownBlock=some g->W0.heap.size<=g/\¬X g:=λg hg=>by
   rcases a2 g hg with h|h
   ·exact ac.out g h
   subst h;exact⟨by omega,λhX=>by have:=(ag.1 _ hX).2;omega⟩
  have aw:w.heap.size≠w.heap.size+1:=by omega
  refine⟨⟨rfl,l++ [d],n+m,?_,?_,?_,.slice sa sm sc,ag.mod ax (λk hk h=>?_),?_,?_,?_,a1⟩,jJ.of_mod ax (λk hk hX h=>?_)⟩
  ·rw [ak.out,hz.out];simp;omega
  ·simp;omega
  ·simp;omega
  ·rcases h with h|h|h
   ·exact .inl h
   ·exact .inr h
   have:=(ac.out k h).1;omega
  ·exact(ao.set (o:=0) _).other (p:=⟨w.heap.size+1,0,none⟩) aw _
  ·have:=(ap.other (p:=⟨w.heap.size,0,none⟩) (Ne.symm aw) (.slice sa sm sc)).set (o:=0) (.int .i64 ((n:Int)+(m:Int)))
   rw [show((n+m:Nat):Int)=(n:Int)+(m:Int)by omega];exact this
  ·rw [N1,U2,Vl]
   refine Row.kept (w:=W3) ae.out (λg hg=>?_);have:=(a1 g hg).1;exact(N4 _ _ _ _ (show g≠w.heap.size+1 by omega)).trans (N4 _ _ _ _ (show g≠w.heap.size by omega))
  have:=ag.1 k hX
  rcases h with h|h|h
  ·omega
  ·omega
  exact(ac.out k h).2 hX
 case done=>
  rintro D r X W hD a5 an⟨hb, -⟩ af;rw [hb] at an
  cases an
 case stop=>
  rintro D c X W hD a5⟨rfl,v,hI⟩ af;obtain⟨ag,ka,kg,aa,ac⟩:=hI;have az:Below w.heap.size w W:=a8.trans (ag.below (by omega) (λk hk=>by omega));have ad:∀v W',Below w.heap.size w W'->Src W' v 1 (vX s).1.length (yR (vX s).1)->(∀a l c,v=.slice (some a) l c->w.heap.size<=a.block)->zaU s w (.returned (.tuple #[v,.int .i64 ((vX s).2:Nat)])) W':=λv W' h1 h2 h3=>⟨v,rfl,h1,h2,h3⟩
  generalize(vX s).1=l at*
  generalize(vX s).2=n at*
  have bb:∀g,v.ownBlock=some g->w.heap.size<=g:=λg hg=>by have:=(ac g hg).1;omega
  replace ad:=hid ad
  rcases aa.form with⟨rfl,hl0,hx0⟩|⟨g,cap,rfl,hc1,hc2⟩
  ·obtain rfl:l=[]:=N9 hl0
   clear aa ag ac;go_wp2_with fail
   refine zd [O 0,O 1,O 2,O 3,O 4,O 5,O 6,O 7,O 8] none (λw'=>Blk w' w.heap.size #[.slice none 0 0] 107/\Blk w' (w.heap.size+1) #[.int .i64 (n:Nat)] 3/\True) ⟨ka.drew,kg.drew,trivial⟩ ?_
   refine Wd ?_
   refine ze ?_;go_wp2;rw [Exit.noGoto_ret];refine jb (D:=D) (v:=.tuple #[.slice none 0 0,.int .i64 (n:Nat)]) af (by simp [results,Tryz.results157,go_sem]) (ad.out _ _ ?_ (zhB _ _) (λa l c h=>by cases h));exact zM (XF az) (by omega) _
  obtain⟨bi,am⟩:=aa.type (g:=g) rfl
  have bd:g≠D:=λe=>by subst e;rw [af] at am;cases am
  have a6:=bb g rfl;have y0:(l.length:Int)<=cap:=by omega
  unfold maxLen at hc2;have y1:(cap:Int)<=9223372036854775807:=by omega
  have ah:Src W (.slice (some ⟨g,0,none⟩) l.length l.length) 1 l.length (yR l):=by
   have h:=aa.src;refine⟨h.1,.inr ⟨g,0,l.length,rfl,N0 _,?_⟩⟩
   rcases h.2 with⟨h0, -⟩|⟨b',off',cap',h0, -,hr⟩
   ·cases h0
   cases h0;exact hr
  clear aa ag ac;replace ah:=hid ah;go_wp2_with fail
  refine zd [O 0,O 1,O 2,O 3,O 4,O 5,O 6,O 7,O 8] none (λw'=>Blk w' w.heap.size #[.slice (some ⟨g,0,none⟩) l.length cap] 107/\Blk w' (w.heap.size+1) #[.int .i64 (n:Nat)] 3/\True) ⟨ka.drew,kg.drew,trivial⟩ ?_
  refine Wd ?_
  refine ze ?_;go_wp2;rw [Exit.noGoto_ret];refine jb (D:=D) (v:=.tuple #[.slice (some ⟨g,0,none⟩) l.length l.length,.int .i64 (n:Nat)]) af (by simp [results,Tryz.results157,go_sem]) (ad.out _ _ ?_ ?_ (λa l c h=>?_))
  ·exact zM (XF az) (by omega) _
  ·exact Src.kept (w:=W) ah.out (λa l c h=>by cases h;exact U1 bd)
  cases h;exact a6
