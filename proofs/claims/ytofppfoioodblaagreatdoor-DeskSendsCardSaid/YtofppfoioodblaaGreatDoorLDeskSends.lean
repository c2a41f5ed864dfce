/- PROVED HERE: rostrumlaw20.DeskSends returns true for every input, and its arguments read afterwards as they did; the listed variable holds what the program's text lays (the card ties it). No further condition. -/
import Derived.Test.YtofppfoioodblaaGreatDoorDA35
namespace Go.Proofs.YtofppfoioodblaaGreatDoor
open Go Go.RowKit Go.Shelf Go.Extern.Stop Go.Stop Go.Extern
attribute [local go_sem] Oper.semAt_some zB zo
def dsT(a i:Nat):List UInt8:=(List.replicate i (zbI a++ [10])).flatten
def dsW(i:Nat):List UInt8:=(List.replicate i okT).flatten
def dsL(a i:Nat):List UInt8:=Lib.join ([108,111,103]::(List.range' 0 i).map λc=>j0 a (c+1)) [32]
theorem rep_snoc {α:Type}(i:Nat)(x:List α):(List.replicate (i+1) x).flatten=(List.replicate i x).flatten++x:=by
 rw [List.replicate_succ',List.flatten_append];simp
theorem dsT_step {a:Nat}(ha:a<3)(i:Nat):dsT a (i+1)=dsT a i++ [115,101,110,100,32] ++vr a++ [32,119,10]:=by
 unfold dsT;rw [rep_snoc,zbK ha];unfold zbI;simp [List.append_assoc]
theorem dsW_step(i:Nat):dsW (i+1)=dsW i++ [111,107,10]:=by unfold dsW;rw [rep_snoc];rfl
theorem join_snoc(ws:List (List UInt8))(x:List UInt8)(h:ws≠ []):Lib.join (ws++ [x]) [32]=Lib.join ws [32] ++ [32] ++x:=by
 cases ws with
 |nil=>exact absurd rfl h
 |cons y r=>
  rw [List.cons_append,Lib.join_cons,Lib.join_cons];unfold Lib.joinTail;simp [List.append_assoc]
theorem dsL_step(a i:Nat):dsL a (i+1)=dsL a i++ [32] ++vr a++ [46] ++vr (i+1):=by
 unfold dsL;rw [List.range'_concat,List.map_append,← List.cons_append,List.map_cons,List.map_nil,join_snoc _ _ (by simp)];unfold j0;simp [List.append_assoc]
theorem dsT_len {a:Nat}(i:Nat):(dsT a i).length=9*i:=by
 unfold dsT zbI;simp;omega
theorem dsW_len(i:Nat):(dsW i).length=3*i:=by
 unfold dsW okT;simp;omega
theorem dsL_len {a i:Nat}(ha:a<100)(hi:i<100):(dsL a i).length<=6*(i+1):=by
 unfold dsL
 have:=V9 (ws:=[108,111,103]::(List.range' 0 i).map λc=>j0 a (c+1)) (c:=5) (λx hx=>by
  rcases List.mem_cons.1 hx with rfl|hx
  ·decide
  obtain⟨y,hy,rfl⟩:=List.mem_map.1 hx
  have:=List.mem_range'.1 hy;obtain⟨j,hj,rfl⟩:=this
  exact Xa ha (by omega))
 simp only [List.length_cons,List.length_map,List.length_range'] at this;omega
theorem dsT_end {a b:Nat}(hb:b<3)(k:Nat):ZF a k b=dsT a k++ [102,97,105,114,32,49,48,48,10,108,111,103,32] ++vr b:=by
 unfold ZF dsT zbJ zla;rw [zbK hb];simp [List.append_assoc]
theorem dsO_end(a k:Nat):(List.replicate k okT).flatten++([101,110,100,32,49,10] ++zm3 a k)=dsW k++ [101,110,100,32,49,10] ++dsL a k++ [10]:=by
 unfold zm3 xN dsW dsL;simp [List.append_assoc]
set_option maxRecDepth 8000 in
set_option maxHeartbeats 4000000 in
theorem deskSends_true(a:Addr)(x y z:Int)(w:World)(he:jv w a)(hmx:ZG w):
 Calls Tryz.prog 6 #[.int .i64 x,.int .i64 y,.int .i64 z] w λe w'=>e=.returned (.bool true)/\Below w.heap.size w w':=by
 have ae:=Vw a w he hmx;have cd:=he.lt;replace ae:=hid ae
 by_cases h1:x<1
 ·have t1:decide (x<1)=true:=by simpa using h1
  go_enter Tryz.func6,Tryz.ntmps6
  go_wp2_with fail
  refine ae.out.mono ?_;rintro e w1⟨rfl,ad⟩;go_wp2;go_ret
  exact⟨rfl,ad⟩
 have t1:decide (x<1)=false:=by simpa using h1
 by_cases h2:30<x
 ·have t2:decide (30<x)=true:=by simpa using h2
  go_enter Tryz.func6,Tryz.ntmps6
  go_wp2_with fail
  refine ae.out.mono ?_;rintro e w1⟨rfl,ad⟩;go_wp2;go_ret
  exact⟨rfl,ad⟩
 have t2:decide (30<x)=false:=by simpa using h2
 by_cases h3:y<0
 ·have t3:decide (y<0)=true:=by simpa using h3
  go_enter Tryz.func6,Tryz.ntmps6
  go_wp2_with fail
  refine ae.out.mono ?_;rintro e w1⟨rfl,ad⟩;go_wp2;go_ret
  exact⟨rfl,ad⟩
 have t3:decide (y<0)=false:=by simpa using h3
 by_cases h4:2<y
 ·have t4:decide (2<y)=true:=by simpa using h4
  go_enter Tryz.func6,Tryz.ntmps6
  go_wp2_with fail
  refine ae.out.mono ?_;rintro e w1⟨rfl,ad⟩;go_wp2;go_ret
  exact⟨rfl,ad⟩
 have t4:decide (2<y)=false:=by simpa using h4
 by_cases h5:z<0
 ·have t5:decide (z<0)=true:=by simpa using h5
  go_enter Tryz.func6,Tryz.ntmps6
  go_wp2_with fail
  refine ae.out.mono ?_;rintro e w1⟨rfl,ad⟩;go_wp2;go_ret
  exact⟨rfl,ad⟩
 have t5:decide (z<0)=false:=by simpa using h5
 by_cases h6:2<z
 ·have t6:decide (2<z)=true:=by simpa using h6
  go_enter Tryz.func6,Tryz.ntmps6
  go_wp2_with fail
  refine ae.out.mono ?_;rintro e w1⟨rfl,ad⟩;go_wp2;go_ret
  exact⟨rfl,ad⟩
 have t6:decide (2<z)=false:=by simpa using h6
 obtain⟨k,rfl⟩:∃n:Nat,x=n:=⟨x.toNat,by omega⟩;obtain⟨p,rfl⟩:∃n:Nat,y=n:=⟨y.toNat,by omega⟩;obtain⟨q,rfl⟩:∃n:Nat,z=n:=⟨z.toNat,by omega⟩;have hk:1<=k/\k<=30:=by omega
 have hp:p<3:=by omega
 have hq:q<3:=by omega
 obtain⟨S',hR⟩:=zho hp hq hk;have bh:=zhm hp hq hk.2;have n1:=λW=>q9 p (by omega) W
 have n3:=λW=>q9 q (by omega) W
 have l1:=yK (n:=p) (by omega);have l3:=yK (n:=q) (by omega);have bi:(ZF p k q).length<=1000000:=by rw [zdv];omega
 have hr:=λW (hW:Below w.heap.size w W)=>Qs (ZF p k q) bi bh hR W (hmx.below hW) (he.below hW cd)
 rw [dsT_end hq,dsO_end] at hr;have au:=λi=>dsT_step hp i
 have aw:=λi=>dsL_step p i
 have a3:=dsW_step;have u1:IntKind.u64.wrap (p:Int)=p:=by rw [IntKind.wrap_u64];omega
 have u3:IntKind.u64.wrap (q:Int)=q:=by rw [IntKind.wrap_u64];omega
 obtain⟨P,hP⟩:∃l,vr p=l:=⟨_,rfl⟩;obtain⟨Q,hQ⟩:∃l,vr q=l:=⟨_,rfl⟩;rw [hQ] at hr;rw [hP] at n1 l1;rw [hQ] at n3 l3;simp only [hP] at au aw;obtain⟨k1,az⟩:∃l:List UInt8,l=[115,101,110,100,32]:=⟨_,rfl⟩;have b1:(⟨#[115,101,110,100,32]⟩:ByteArray)=bs k1:=by rw [az];rfl
 have m1:k1.length=5:=by rw [az];rfl
 obtain⟨k2,a2⟩:∃l:List UInt8,l=[32,119,10]:=⟨_,rfl⟩;have b2:(⟨#[32,119,10]⟩:ByteArray)=bs k2:=by rw [a2];rfl
 have m2:k2.length=3:=by rw [a2];rfl
 obtain⟨k3,a7⟩:∃l:List UInt8,l=[111,107,10]:=⟨_,rfl⟩;have b3:(⟨#[111,107,10]⟩:ByteArray)=bs k3:=by rw [a7];rfl
 have m3:k3.length=3:=by rw [a7];rfl
 obtain⟨k4,ay⟩:∃l:List UInt8,l=[32]:=⟨_,rfl⟩;have b4:(⟨#[32]⟩:ByteArray)=bs k4:=by rw [ay];rfl
 have m4:k4.length=1:=by rw [ay];rfl
 obtain⟨k5,a5⟩:∃l:List UInt8,l=[46]:=⟨_,rfl⟩;have b5:(⟨#[46]⟩:ByteArray)=bs k5:=by rw [a5];rfl
 have m5:k5.length=1:=by rw [a5];rfl
 obtain⟨k6,a4⟩:∃l:List UInt8,l=[102,97,105,114,32,49,48,48,10,108,111,103,32]:=⟨_,rfl⟩;have b6:(⟨#[102,97,105,114,32,49,48,48,10,108,111,103,32]⟩:ByteArray)=bs k6:=by rw [a4];rfl
 have m6:k6.length=13:=by rw [a4];rfl
 obtain⟨k7,a1⟩:∃l:List UInt8,l=[101,110,100,32,49,10]:=⟨_,rfl⟩;have b7:(⟨#[101,110,100,32,49,10]⟩:ByteArray)=bs k7:=by rw [a1];rfl
 have m7:k7.length=6:=by rw [a1];rfl
 obtain⟨k8,a0⟩:∃l:List UInt8,l=[10]:=⟨_,rfl⟩;have b8:(⟨#[10]⟩:ByteArray)=bs k8:=by rw [a0];rfl
 have m8:k8.length=1:=by rw [a0];rfl
 rw [← a4,← a1,← a0] at hr;simp only [← az,← a2] at au;simp only [← ay,← a5] at aw;simp only [← a7] at a3;clear az a2 a7 ay a5 a4 a1 a0 hR bh bi;replace hr:=hid hr;replace n1:=hid n1;replace n3:=hid n3;replace hP:=hid hP;replace hQ:=hid hQ;replace au:=hid au;replace aw:=hid aw;replace a3:=hid a3;replace hk:=hid hk
 go_enter Tryz.func6,Tryz.ntmps6
 go_wp2_with fail
 refine ae.out.mono ?_;rintro e w1⟨rfl,ad⟩;go_wp2
 go_loopw [8,9,10,11] (λp8 p9 p10 p11 wr=>∃i:Nat,p11=.int .i64 (i:Nat)/\i<=k/\p8=.string (bs (dsT p i))/\p9=.string (bs (dsW i))/\p10=.string (bs (dsL p i))/\Below w.heap.size w wr) (λ_ _ _ p11 _=>k - (intOf p11).toNat)
 case atStart=>exact⟨0,rfl,Nat.zero_le _,rfl,rfl,rfl,ad⟩
 case round=>
  obtain⟨i,rfl,hi,rfl,rfl,rfl,hb⟩:=hrel;have b9:=dsT_len (a:=p) i;have cc:=dsW_len i;have bo:=dsL_len (a:=p) (i:=i) (by omega) (by have:=hk.out;omega);have b0:=hk.out.2;have ar:=au.out i;have am:=aw.out i;have ao:=a3.out i;obtain⟨x0,an⟩:∃l,dsT p i=l:=⟨_,rfl⟩;obtain⟨y0,ap⟩:∃l,dsW i=l:=⟨_,rfl⟩;obtain⟨z0,aq⟩:∃l,dsL p i=l:=⟨_,rfl⟩;rw [an] at b9 ar⊢;rw [ap] at cc ao⊢;rw [aq] at bo am⊢
  by_cases hlt:i<k
  ·have q0:decide ((i:Int)<(k:Int))=true:=by simpa using hlt
   have q1:IntKind.i64.wrap ((i:Int)+1)=(i:Int)+1:=by rw [IntKind.wrap_i64];omega
   have q2:IntKind.u64.wrap (i:Int)=i:=by rw [IntKind.wrap_u64];omega
   have q3:IntKind.u64.wrap ((i:Int)+1)=((i+1:Nat):Int):=by rw [IntKind.wrap_u64];omega
   have n2:=λW=>q9 (i+1) (by omega) W
   have l2:=yK (n:=i+1) (by omega);obtain⟨R,bc⟩:∃l,vr (i+1)=l:=⟨_,rfl⟩;rw [bc] at am n2 l2;obtain⟨x1,ab⟩:∃l,l=x0++k1:=⟨_,rfl⟩;have be:bs x0++bs k1=bs x1:=by rw [ab];exact vC _ _
   have bd:x1.length=x0.length+k1.length:=by rw [ab,List.length_append]
   obtain⟨x2,aa⟩:∃l,l=x1++P:=⟨_,rfl⟩;have ba:bs x1++bs P=bs x2:=by rw [aa];exact vC _ _
   have bb:x2.length=x1.length+P.length:=by rw [aa,List.length_append]
   obtain⟨x3,af⟩:∃l,l=x2++k2:=⟨_,rfl⟩;have br:bs x2++bs k2=bs x3:=by rw [af];exact vC _ _
   have bv:x3.length=x2.length+k2.length:=by rw [af,List.length_append]
   obtain⟨y1,ac⟩:∃l,l=y0++k3:=⟨_,rfl⟩;have bg:bs y0++bs k3=bs y1:=by rw [ac];exact vC _ _
   have bf:y1.length=y0.length+k3.length:=by rw [ac,List.length_append]
   obtain⟨z1,ai⟩:∃l,l=z0++k4:=⟨_,rfl⟩;have bw:bs z0++bs k4=bs z1:=by rw [ai];exact vC _ _
   have cb:z1.length=z0.length+k4.length:=by rw [ai,List.length_append]
   obtain⟨z2,aj⟩:∃l,l=z1++P:=⟨_,rfl⟩;have bk:bs z1++bs P=bs z2:=by rw [aj];exact vC _ _
   have bj:z2.length=z1.length+P.length:=by rw [aj,List.length_append]
   obtain⟨z3,ag⟩:∃l,l=z2++k5:=⟨_,rfl⟩;have bp:bs z2++bs k5=bs z3:=by rw [ag];exact vC _ _
   have bn:z3.length=z2.length+k5.length:=by rw [ag,List.length_append]
   obtain⟨z4,ak⟩:∃l,l=z3++R:=⟨_,rfl⟩;have ca:bs z3++bs R=bs z4:=by rw [ak];exact vC _ _
   have bz:z4.length=z3.length+R.length:=by rw [ak,List.length_append]
   rw [← ab,← aa,← af] at ar;rw [← ac] at ao;rw [← ai,← aj,← ag,← ak] at am;clear ab aa af ac ai aj ag ak;have s1:=vD (a:=x0) (b:=k1) (by omega);have s2:=vD (a:=x1) (b:=P) (by omega);have s3:=vD (a:=x2) (b:=k2) (by omega);have s4:=vD (a:=y0) (b:=k3) (by omega);have s5:=vD (a:=z0) (b:=k4) (by omega);have s6:=vD (a:=z1) (b:=P) (by omega);have s7:=vD (a:=z2) (b:=k5) (by omega);have s8:=vD (a:=z3) (b:=R) (by omega);replace ar:=hid ar;replace ao:=hid ao;replace am:=hid am;replace an:=hid an;replace ap:=hid ap;replace aq:=hid aq;replace bc:=hid bc;replace n2:=hid n2;go_wp2_with fail
   refine(n1.out _).mono ?_;rintro e w2⟨rfl,a8⟩;go_wp2_with fail
   refine(n1.out _).mono ?_;rintro e w3⟨rfl,a6⟩;go_wp2_with fail
   refine(n2.out _).mono ?_;rintro e w4⟨rfl,a9⟩;go_wp2
   go_roundw
   case rel=>exact⟨i+1,by simp,by omega,by rw [ar.out],by rw [ao.out],by rw [am.out],ze (ze (ze hb a8) a6) a9⟩
   case measure=>simp [intOf];omega
  obtain rfl:i=k:=by omega
  have q0:decide ((i:Int)<(i:Int))=false:=by simp
  have bl:=hr.out wr hb;clear ar am ao;have ax:=hr.out;rw [an,ap,aq] at ax;obtain⟨x1,ab⟩:∃l,l=x0++k6:=⟨_,rfl⟩;have be:bs x0++bs k6=bs x1:=by rw [ab];exact vC _ _
  have bd:x1.length=x0.length+k6.length:=by rw [ab,List.length_append]
  obtain⟨x2,aa⟩:∃l,l=x1++Q:=⟨_,rfl⟩;have ba:bs x1++bs Q=bs x2:=by rw [aa];exact vC _ _
  have bb:x2.length=x1.length+Q.length:=by rw [aa,List.length_append]
  obtain⟨y1,ac⟩:∃l,l=y0++k7:=⟨_,rfl⟩;have bg:bs y0++bs k7=bs y1:=by rw [ac];exact vC _ _
  have bf:y1.length=y0.length+k7.length:=by rw [ac,List.length_append]
  obtain⟨y2,al⟩:∃l,l=y1++z0:=⟨_,rfl⟩;have bq:bs y1++bs z0=bs y2:=by rw [al];exact vC _ _
  have bt:y2.length=y1.length+z0.length:=by rw [al,List.length_append]
  obtain⟨y3,ah⟩:∃l,l=y2++k8:=⟨_,rfl⟩;have bm:bs y2++bs k8=bs y3:=by rw [ah];exact vC _ _
  have bu:y3.length=y2.length+k8.length:=by rw [ah,List.length_append]
  rw [← ab,← aa,← ac,← al,← ah] at ax;have s1:=vD (a:=x0) (b:=k6) (by omega);have s2:=vD (a:=x1) (b:=Q) (by omega);have s3:=vD (a:=y0) (b:=k7) (by omega);have s4:=vD (a:=y1) (b:=z0) (by omega);have s5:=vD (a:=y2) (b:=k8) (by omega);clear ab aa ac al ah bl;replace ax:=hid ax;replace an:=hid an;replace ap:=hid ap;replace aq:=hid aq;go_wp2_with fail
  refine(n3.out _).mono ?_;rintro e w2⟨rfl,a8⟩;have a6:=ze hb a8;go_wp2_with fail
  refine(ax.out _ a6).mono ?_;rintro e w4⟨rfl,a9⟩;go_wp2;go_ret
  exact⟨rfl,ze a6 a9⟩
end Go.Proofs.YtofppfoioodblaaGreatDoor
namespace Go.Proofs.YtofppfoioodblaaGreatDoor.deskSends
open Go Go.RowKit Go.ChangeShapes Go.WideShapes Go.ChangeAt
set_option maxRecDepth 100000 in
theorem contract(H:Type)(enc:TypeId×Value->H)(W:World)(base:Nat)(args:Array Value)(ds gs:List (DataW H))(before:List MemPlace)
 (hval:∀(j:Nat) t v,Tryz.f6.params[j]?=some t->args[j]?=some v->Value.okWide Tryz.prog W .any base t v)
 (hW:DataW.Whole enc Tryz.prog Tryz.f6.params.toList Rows.deskSendsSpec.vars false W args.toList ds gs before) (hL:laidMetH Tryz.prog Rows.deskSendsRow.laid W) (hsh:W.ShapedOpen Tryz.prog):
 Calls Tryz.prog 6 args W λe W'=>∃v,e=.returned v/\Rows.deskSendsSpec.post enc Tryz.prog Tryz.f6 false true false false W args v W':=by
 obtain⟨a,he⟩:=JM hL;have ad:=hW;obtain⟨p,q,ab,hV,rfl,_,_⟩:=hW;have hA:DataW.TrodAll enc Tryz.prog W 0 (λ_=>true) true Tryz.f6.params.toList args.toList ds p:=ab;rw [Tryz.params6] at hA hval;obtain⟨v0,af,d0,ag,p0,q0,ac,rfl,rfl,h0,r0⟩:=trodAll_cons hA;obtain⟨v1,ai,d1,aj,p1,q1,rfl,rfl,rfl,h1,r1⟩:=trodAll_cons r0;obtain⟨v2,ah,d2,ae,p2,q2,rfl,rfl,rfl,h2,r2⟩:=trodAll_cons r1;obtain⟨rfl,rfl,rfl⟩:=trodAll_nil r2;obtain rfl:args=#[v0,v1,v2]:=by cases args;simp_all
 obtain⟨rfl,rfl⟩:=trodVars_none hV;obtain⟨x,rfl,_,_,_⟩:=open_int Tryz.underlying3 (hval 0 3 v0 rfl rfl) h0;obtain⟨y,rfl,_,_,_⟩:=open_int Tryz.underlying3 (hval 1 3 v1 rfl rfl) h1;obtain⟨z,rfl,_,_,_⟩:=open_int Tryz.underlying3 (hval 2 3 v2 rfl rfl) h2;have aa:=deskSends_true a x y z W he (Zd hsh);clear ab;refine aa.mono λe W' ⟨he,hg⟩=>?_
 subst he;exact⟨_,rfl,zaG zdF (by kernel_rfl) (by kernel_rfl) rfl Tryz.underlying4 rfl ad hg⟩
theorem reads(os:Os){H:Type}(enc:TypeId×Value->H):∃places,DataW.whole enc Tryz.prog ((qh os).forCall (λ_ _=>0) ⟨#[],#[.int .i64 0,.int .i64 0,.int .i64 0],[]⟩).memory Tryz.f6.params.toList Rows.deskSendsSpec.vars false (#[.int .i64 0,.int .i64 0,.int .i64 0]:Array Value).toList 8=some ([.lit (.int .i64 0),.lit (.int .i64 0),.lit (.int .i64 0)],[],places):=
 ⟨[],by kernel_rfl⟩
set_option maxRecDepth 100000 in
theorem lifted(os:Os)(started:os.Started)(H:Type)(enc:TypeId×Value->H)(F:Stop.Interp):
 ReturnsInHanded {} Tryz.checked os 6 .any ((OpenSpec.ofChange Rows.deskSendsSpec).preRow enc Tryz.prog Tryz.f6 Rows.deskSendsRow.domain false Rows.deskSendsRow.laid) (((OpenSpec.ofChange Rows.deskSendsSpec).at F).post enc Tryz.prog Tryz.f6 false true false false):=by
 obtain⟨aa,hx⟩:=reads os enc
 refine returnsInHanded_of_row (C:=Tryz.checked) (s:=OpenSpec.ofChange Rows.deskSendsSpec) own started (by kernel_rfl) Tryz.func6
  (witness_row_atRef (enc:=enc) (C:=Tryz.checked) false (qh os) #[.int .i64 0,.int .i64 0,.int .i64 0] rfl (by kernel_rfl) (by kernel_rfl) (by kernel_rfl)
   (OpenSpec.preRow_of_cond 8 hx (by kernel_rfl) (λk hk=>by cases hk) (by kernel_rfl) (zaO os _))) ?_
 intro W base args ds gs before hval hW _ _ _ hL hsh _;exact contract H enc W base args ds gs before hval hW hL hsh
theorem closed0:(Rows.deskSendsRow.inPlace==Tryz.pinned.checked.prog.inPlace 6)=true:=by kernel_rfl
theorem closed1:(Rows.deskSendsRow.unfollowed==Tryz.pinned.checked.prog.unfollowed 6)=true:=by kernel_rfl
theorem closed2:(Rows.deskSendsRow.recurses==Tryz.pinned.checked.prog.recurses 6)=true:=by kernel_rfl
theorem closed3:(Rows.deskSendsRow.named==Tryz.pinned.checked.prog.varsNamed 6)=true:=by kernel_rfl
theorem closed:joinedFacts Tryz.pinned.checked.prog 6 Tryz.f6 (OpenSpec.ofChange Rows.deskSendsSpec).bare Rows.deskSendsRow=true:=by
 unfold joinedFacts;rw [closed0,closed1,closed2,closed3]
 kernel_rfl
theorem said:Rows.DeskSendsSaid:=
 OpenClaim.holds_of_cond 6 Tryz.f6 rfl rfl rfl rfl rfl rfl rfl ⟨rfl,rfl,rfl,rfl,rfl⟩ rfl rfl rfl rfl rfl (by kernel_rfl) Tryz.func6 closed
  (of_decide_eq_true (by kernel_rfl)) (by unfold Func.isWrapper;first|(rw [if_pos (by decide+kernel)];kernel_rfl)|(rw [if_neg (by decide+kernel)];exact⟨rfl,rfl⟩))
  (λos started H enc _ F=>by rw [OpenClaim.pre_eq_preRow];exact lifted os started H enc F)
theorem plain(f:FuncId)(fn:Func)(hf:Tryz.pinned.checked.prog.funcNamed "rostrum/rostrumlaw20.DeskSends" =some f)(hfn:Tryz.pinned.checked.prog.funcs[f]?=some fn):
 true=Tryz.pinned.checked.prog.looks [] /\∀(j:Nat) t,fn.params[j]?=some t->Tryz.pinned.checked.prog.wantsStandIn t=false:=by
 obtain rfl:f=6:=Option.some.inj ((show Tryz.prog.funcNamed "rostrum/rostrumlaw20.DeskSends" =some 6 by kernel_rfl).symm.trans hf)|>.symm
 obtain rfl:fn=Tryz.f6:=(Option.some.inj (Tryz.func6.symm.trans hfn)).symm;refine⟨by kernel_rfl,λj t ht=>?_⟩;rw [Tryz.params6] at ht
 have:t=3:=by
  match j,ht with
  |0,h=>simpa using h.symm
  |1,h=>simpa using h.symm
  |2,h=>simpa using h.symm
  |n+3,h=>simp at h
 subst this;exact(show Tryz.prog.wantsStandIn 3=false by kernel_rfl)
theorem card:Rows.DeskSendsCardSaid:=
 Claim7.holds_tied_plain_at .later [] _ _ _ _ said (λ_ h=>by cases h) (by kernel_rfl) (λ_ h=>by cases h) deskSends_row_tie rfl ⟨rfl,rfl⟩ (by kernel_rfl) rfl plain (by kernel_rfl)
end Go.Proofs.YtofppfoioodblaaGreatDoor.deskSends
