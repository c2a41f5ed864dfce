/- PROVED HERE: rostrumlaw20.DeskLong returns true for every input, and its arguments read afterwards as they did; the listed variable holds what the program's text lays (the card ties it). No further condition. -/
import Derived.Test.YtofppfoioodblaaGreatDoorDA35
namespace Go.Proofs.YtofppfoioodblaaGreatDoor
open Go Go.RowKit Go.Shelf Go.Extern.Stop Go.Stop Go.Extern
attribute [local go_sem] Oper.semAt_some zB zo
theorem flyT_succ(i:Nat):zhk (i+1)=zhk i++ [102,108,121,105,110,103,10]:=by
 unfold zhk;rw [List.replicate_succ',List.flatten_append];simp
def noteL(j:Nat):List UInt8:=59::List.replicate j 120
theorem noteL_len(j:Nat):(noteL j).length=j+1:=by unfold noteL;simp
theorem noteL_succ(j:Nat):noteL (j+1)=noteL j++ [120]:=by unfold noteL;rw [List.replicate_succ'];rfl
theorem runFly_any(n:Nat)(hn:n<=305)(a:Addr)(w:World)(hmx:ZG w)(he:jv w a):Calls Tryz.prog 19 #[.string (bs (zhk n))] w λe w'=>(∃s k er,e=.returned (.tuple #[.string s,k,.int .i64 er])/\(er==200)=decide (300<(n:Int)))/\Below w.heap.size w w':=by
 have ab:=zfA n
 by_cases h:300<n
 ·refine(Vu (zhk n) (by omega) 0 200 (zaE (.inr (by rw [Y2,List.length_replicate];exact h))) (by decide) w hmx).mono ?_
  rintro e w'⟨rfl,hb⟩;exact⟨⟨_,_,_,rfl,by simp;omega⟩,hb⟩
 have aa:=Y1 (t:=zhk n) (by omega) (by rw [Y2,List.length_replicate];omega) (λws hw=>by
  rw [Y2] at hw
  rw [List.eq_of_mem_replicate hw];decide)
 have hR:=zfB 1 (Zn 3 1 262144 (zt 1)) rfl n;rw [← Y2,← yZ] at hR;refine(Qs (zhk n) (by omega) aa hR.lines w hmx he).mono ?_;rintro e w'⟨rfl,hb⟩;exact⟨⟨_,_,_,rfl,by simp;omega⟩,hb⟩
theorem runNote_any(j:Nat)(hj:j<=70000)(a:Addr)(w:World)(hmx:ZG w)(he:jv w a):Calls Tryz.prog 19 #[.string (bs (noteL j))] w λe w'=>(∃s k er,e=.returned (.tuple #[.string s,k,.int .i64 er])/\(er==200)=decide (65536<((j+1:Nat):Int)))/\Below w.heap.size w w':=by
 have ac:=noteL_len j;have aa:Za (jG 10 (noteL j))=[]:=zhl j
 by_cases h:65536<j+1
 ·refine(Vu (noteL j) (by omega) 0 200 (zaE (.inl (by omega))) (by decide) w hmx).mono ?_
  rintro e w'⟨rfl,hb⟩;exact⟨⟨_,_,_,rfl,by simp;omega⟩,hb⟩
 have ab:=Y1 (t:=noteL j) (by omega) (by rw [aa];decide) (λws hw=>by rw [aa] at hw;simp at hw)
 have hR:yS 1 (Zn 3 1 262144 (zt 1)) ((j5 (noteL j)).map (·.2)) (Zn 3 1 262144 (zt 1)) []:=by rw [yZ,aa];exact .nil
 refine(Qs (noteL j) (by omega) ab hR.lines w hmx he).mono ?_;rintro e w'⟨rfl,hb⟩;exact⟨⟨_,_,_,rfl,by simp;omega⟩,hb⟩
theorem byte_srcX(n:Int)(w:World):Src (w.alloc (.cells #[.int .u8 n] 5)) (.slice (some ⟨w.heap.size,0,none⟩) 1 1) 1 1 [.int .u8 n]:=jD (n:=1) (size:=1) (cap:=1) (Blk.new rfl) rfl (Nat.le_refl 1)
def lenV:Value->Nat
 | .slice _ l _=>l
 |_=>0
set_option maxRecDepth 8000 in
set_option maxHeartbeats 4000000 in
theorem deskLong_true(a:Addr)(x y:Int)(w:World)(he:jv w a)(hmx:ZG w):
 Calls Tryz.prog 5 #[.int .i64 x,.int .i64 y] w λe w'=>e=.returned (.bool true)/\Below w.heap.size w w':=by
 have aj:=Vw a w he hmx;have bj:=he.lt;replace aj:=hid aj
 by_cases h1:y<290
 ·have t1:decide (y<290)=true:=by simpa using h1
  go_enter Tryz.func5,Tryz.ntmps5
  go_wp2_with fail
  refine aj.out.mono ?_;rintro e w1⟨rfl,ag⟩;go_wp2;go_ret
  exact⟨rfl,ag⟩
 have t1:decide (y<290)=false:=by simpa using h1
 by_cases h2:305<y
 ·have t2:decide (305<y)=true:=by simpa using h2
  go_enter Tryz.func5,Tryz.ntmps5
  go_wp2_with fail
  refine aj.out.mono ?_;rintro e w1⟨rfl,ag⟩;go_wp2;go_ret
  exact⟨rfl,ag⟩
 have t2:decide (305<y)=false:=by simpa using h2
 by_cases h3:x<65000
 ·have t3:decide (x<65000)=true:=by simpa using h3
  go_enter Tryz.func5,Tryz.ntmps5
  go_wp2_with fail
  refine aj.out.mono ?_;rintro e w1⟨rfl,ag⟩;go_wp2;go_ret
  exact⟨rfl,ag⟩
 have t3:decide (x<65000)=false:=by simpa using h3
 by_cases h4:66000<x
 ·have t4:decide (66000<x)=true:=by simpa using h4
  go_enter Tryz.func5,Tryz.ntmps5
  go_wp2_with fail
  refine aj.out.mono ?_;rintro e w1⟨rfl,ag⟩;go_wp2;go_ret
  exact⟨rfl,ag⟩
 have t4:decide (66000<x)=false:=by simpa using h4
 obtain⟨n,rfl⟩:∃n:Nat,x=n:=⟨x.toNat,by omega⟩;obtain⟨k,rfl⟩:∃n:Nat,y=n:=⟨y.toNat,by omega⟩;have hk:k<=305:=by omega
 have hn:65000<=n/\n<=66000:=by omega
 have r1:=λW (hW:Below w.heap.size w W)=>runFly_any k hk a W (hmx.below hW) (he.below hW bj)
 have r2:=λj (hj:j<=70000) W (hW:Below w.heap.size w W)=>runNote_any j hj a W (hmx.below hW) (he.below hW bj)
 obtain⟨k1,ay⟩:∃l:List UInt8,l=[102,108,121,105,110,103,10]:=⟨_,rfl⟩;have b1:(⟨#[102,108,121,105,110,103,10]⟩:ByteArray)=bs k1:=by rw [ay];rfl
 have m1:k1.length=7:=by rw [ay];rfl
 have az:=flyT_succ;rw [← ay] at az;clear ay;obtain⟨i0,bd,ba,bc,be⟩:=info_parts JN.info;have a5:∀W:World,∃w',(Instr.makeSlice 49 (.int .i64 0) (.int .i64 66000)).run Tryz.prog W=.ok (.slice (some ⟨W.heap.size,0,none⟩) 0 66000) w'/\Row w' 5 1 (.slice (some ⟨W.heap.size,0,none⟩) 0 66000) 0 [] /\W.grownBy w' none:=λW=>run_make_own (P:=Tryz.prog) W 0 49 5 i0 (.int .u8 0) 1 JN.under bd ba bc .i64 .i64 66000 (by rw [be];omega) (by decide) (Nat.zero_le _)
 replace r1:=hid r1;replace r2:=hid r2;replace az:=hid az;replace a5:=hid a5;replace hn:=hid hn;clear bd ba bc be
 go_enter Tryz.func5,Tryz.ntmps5
 go_wp2_with fail
 refine aj.out.mono ?_;rintro e w1⟨rfl,ag⟩;go_wp2
 go_loopw [6,7] (λp6 p7 wr=>∃i:Nat,p7=.int .i64 (i:Nat)/\i<=k/\p6=.string (bs (zhk i))/\Below w.heap.size w wr) (λ_ p7 _=>k - (intOf p7).toNat)
 case atStart=>exact⟨0,rfl,Nat.zero_le _,rfl,ag⟩
 case round=>
  obtain⟨i,rfl,hi,rfl,hb⟩:=hrel;have bi:=zfA i;have ap:=az.out i;obtain⟨x0,am⟩:∃l,zhk i=l:=⟨_,rfl⟩;rw [am] at bi ap⊢
  by_cases hlt:i<k
  ·have q0:decide ((i:Int)<(k:Int))=true:=by simpa using hlt
   have q1:IntKind.i64.wrap ((i:Int)+1)=(i:Int)+1:=by rw [IntKind.wrap_i64];omega
   obtain⟨x1,e1⟩:∃l,l=x0++k1:=⟨_,rfl⟩;have c1:bs x0++bs k1=bs x1:=by rw [e1];exact vC _ _
   rw [← e1] at ap;have s1:=vD (a:=x0) (b:=k1) (by omega);clear e1;replace ap:=hid ap;replace am:=hid am;go_wp2
   go_roundw
   case rel=>exact⟨i+1,by simp,by omega,by rw [ap.out],hb⟩
   case measure=>simp [intOf];omega
  obtain rfl:i=k:=by omega
  have q0:decide ((i:Int)<(i:Int))=false:=by simp
  have ax:=r1.out wr hb;rw [am] at ax;replace ax:=hid ax;replace am:=hid am;clear ap;go_wp2_with fail
  refine ax.out.mono ?_;rintro e w2⟨⟨sv,kv,er,rfl,a0⟩,a9⟩;have ae:=ze hb a9;obtain⟨w3,a1,al,a2⟩:=a5.out w2;have af:=ae.grown a2 (by have:=ae.size;omega) (λg hg=>by cases hg);have bk:w.heap.size<=w2.heap.size:=ae.size;replace al:=hid al;replace a2:=hid a2
  go_wp2_with (at_builtin
               obtain⟨bb,w4,aa,ab,au,ad⟩:=zM JN (al.out.below (zi (Below.refl _ _) (.cells #[.int .u8 59] 5))) (byte_srcX 59 w3) (by simp [Value.oneCell']) (by omega) 49;replace ab:Row w4 5 1 bb (noteL 0).length (u8s (noteL 0)):=ab;refine zv rfl _ _ _ rfl rfl rfl aa ?_
               clear aa)
  have ak:Below w.heap.size w w4:=(zi af (.cells #[.int .u8 59] 5)).grown au (by have:=af.size;simp;omega) (λg hg=>by cases hg;exact bk)
  have ac:∀g,bb.ownBlock=some g->w.heap.size<=g:=λg hg=>by
   rw [hg] at ad
   rcases ad with h|h
   ·simp [Value.ownBlock] at h;omega
   simp at h;have:=af.size;omega
  replace a0:=hid a0;clear h1 h2 h3 h4 t1 t2 t3 t4 bi;clear hb a9 ae af au ad a1;replace ab:=hid ab;replace ak:=hid ak;replace ac:=hid ac
  go_loopw [11] (λp11 wr=>∃j:Nat,Row wr 5 1 p11 (noteL j).length (u8s (noteL j))/\j+1<=n/\Below w.heap.size w wr/\(∀g,p11.ownBlock=some g->w.heap.size<=g)) (λp11 _=>n - lenV p11)
  case atStart=>exact⟨0,ab.out,by have:=hn.out;omega,ak.out,ac.out⟩
  case round=>
   obtain⟨j,hR,hj,hb,hw⟩:=hrel;have an:=noteL_len j;have ao:=noteL_succ j;have bg:j<=70000:=by have:=hn.out;omega
   have r3:=r2.out j bg wr hb;have bh:=Y6 hR.src;obtain⟨l0,aw⟩:∃l,noteL j=l:=⟨_,rfl⟩;rw [aw] at hR an ao bh r3;obtain⟨sa,sc,rfl⟩:=hR.src.shape;replace hw:=hid hw;clear bg
   by_cases hlt:j+1<n
   ·have q2:decide ((l0.length:Int)<(n:Int))=true:=by simp;omega
    have a7:l0.length<n:=by omega
    have a4:l0.length+1<=1073741824:=by have:=hn.out;omega
    clear bh r3;replace an:=hid an;replace ao:=hid ao;replace aw:=hid aw;replace a4:=hid a4
    go_wp2_with (at_builtin
                 obtain⟨bf,w5,aa,aq,a8,ai⟩:=zM JN (hR.below (zi (Below.refl _ _) (.cells #[.int .u8 120] 5))) (byte_srcX 120 wr) (by simp [Value.oneCell']) a4.out 49;have ah:Row w5 5 1 bf (l0++ [120]).length (u8s (l0++ [120])):=by rw [List.length_append,Jh];exact aq
                 obtain⟨ta,tc,rfl⟩:=(show Src w5 bf 1 (l0.length+1) (u8s (l0++ [120]))by have:=ah.src;rwa [List.length_append] at this).shape;refine zv rfl _ _ _ rfl rfl rfl aa ?_
                 clear aa)
    go_roundw
    case rel=>
     refine⟨j+1,by rw [ao.out];exact ah,by omega,(zi hb (.cells #[.int .u8 120] 5)).grown a8 (by have:=hb.size;simp;omega) (λg hg=>hw.out g hg),λg hg=>?_⟩;rw [hg] at ai
     rcases ai with h|h
     ·exact hw.out g h.symm
     simp at h;have:=hb.size;omega
    case measure=>simp [lenV];have:=an.out;omega
   have q2:decide ((l0.length:Int)<(n:Int))=false:=by simp;omega
   have a7:¬l0.length<n:=by omega
   have a3:j+1=n:=by omega
   replace an:=hid an;replace ao:=hid ao;replace aw:=hid aw;replace a3:=hid a3;replace r3:=hid r3;replace hR:=hid hR;go_wp2_with fail
   refine r3.out.mono ?_;rintro e w6⟨⟨bp,bo,bq,rfl,ar⟩,bn⟩;rw [a3.out] at ar;have a6:=a0.out;obtain⟨B1,bm⟩:∃b,decide (300<(i:Int))=b:=⟨_,rfl⟩;obtain⟨B2,bl⟩:∃b,decide (65536<(n:Int))=b:=⟨_,rfl⟩;rw [bm] at a6;rw [bl] at ar;go_wp2;go_ret
   exact⟨rfl,ze hb bn⟩
end Go.Proofs.YtofppfoioodblaaGreatDoor
namespace Go.Proofs.YtofppfoioodblaaGreatDoor.deskLong
open Go Go.RowKit Go.ChangeShapes Go.WideShapes Go.ChangeAt
set_option maxRecDepth 100000 in
theorem contract(H:Type)(enc:TypeId×Value->H)(W:World)(base:Nat)(args:Array Value)(ds gs:List (DataW H))(before:List MemPlace)
 (hval:∀(j:Nat) t v,Tryz.f5.params[j]?=some t->args[j]?=some v->Value.okWide Tryz.prog W .any base t v)
 (hW:DataW.Whole enc Tryz.prog Tryz.f5.params.toList Rows.deskLongSpec.vars false W args.toList ds gs before) (hL:laidMetH Tryz.prog Rows.deskLongRow.laid W) (hsh:W.ShapedOpen Tryz.prog):
 Calls Tryz.prog 5 args W λe W'=>∃v,e=.returned v/\Rows.deskLongSpec.post enc Tryz.prog Tryz.f5 false true false false W args v W':=by
 obtain⟨a,he⟩:=JM hL;have ad:=hW;obtain⟨p,q,ac,hV,rfl,_,_⟩:=hW;have hA:DataW.TrodAll enc Tryz.prog W 0 (λ_=>true) true Tryz.f5.params.toList args.toList ds p:=ac;rw [Tryz.params5] at hA hval;obtain⟨v0,ae,d0,af,p0,q0,ab,rfl,rfl,h0,r0⟩:=trodAll_cons hA;obtain⟨v1,ag,d1,ah,p1,q1,rfl,rfl,rfl,h1,r1⟩:=trodAll_cons r0;obtain⟨rfl,rfl,rfl⟩:=trodAll_nil r1;obtain rfl:args=#[v0,v1]:=by cases args;simp_all
 obtain⟨rfl,rfl⟩:=trodVars_none hV;obtain⟨x,rfl,_,_,_⟩:=open_int Tryz.underlying3 (hval 0 3 v0 rfl rfl) h0;obtain⟨y,rfl,_,_,_⟩:=open_int Tryz.underlying3 (hval 1 3 v1 rfl rfl) h1;have aa:=deskLong_true a x y W he (Zd hsh);clear ac;refine aa.mono λe W' ⟨he,hg⟩=>?_
 subst he;exact⟨_,rfl,zaG zdF (by kernel_rfl) (by kernel_rfl) rfl Tryz.underlying4 rfl ad hg⟩
theorem reads(os:Os){H:Type}(enc:TypeId×Value->H):∃places,DataW.whole enc Tryz.prog ((qh os).forCall (λ_ _=>0) ⟨#[],#[.int .i64 0,.int .i64 0],[]⟩).memory Tryz.f5.params.toList Rows.deskLongSpec.vars false (#[.int .i64 0,.int .i64 0]:Array Value).toList 8=some ([.lit (.int .i64 0),.lit (.int .i64 0)],[],places):=
 ⟨[],by kernel_rfl⟩
set_option maxRecDepth 100000 in
theorem lifted(os:Os)(started:os.Started)(H:Type)(enc:TypeId×Value->H)(F:Stop.Interp):
 ReturnsInHanded {} Tryz.checked os 5 .any ((OpenSpec.ofChange Rows.deskLongSpec).preRow enc Tryz.prog Tryz.f5 Rows.deskLongRow.domain false Rows.deskLongRow.laid) (((OpenSpec.ofChange Rows.deskLongSpec).at F).post enc Tryz.prog Tryz.f5 false true false false):=by
 obtain⟨aa,hx⟩:=reads os enc
 refine returnsInHanded_of_row (C:=Tryz.checked) (s:=OpenSpec.ofChange Rows.deskLongSpec) own started (by kernel_rfl) Tryz.func5
  (witness_row_atRef (enc:=enc) (C:=Tryz.checked) false (qh os) #[.int .i64 0,.int .i64 0] rfl (by kernel_rfl) (by kernel_rfl) (by kernel_rfl)
   (OpenSpec.preRow_of_cond 8 hx (by kernel_rfl) (λk hk=>by cases hk) (by kernel_rfl) (zaO os _))) ?_
 intro W base args ds gs before hval hW _ _ _ hL hsh _;exact contract H enc W base args ds gs before hval hW hL hsh
theorem closed0:(Rows.deskLongRow.inPlace==Tryz.pinned.checked.prog.inPlace 5)=true:=by kernel_rfl
theorem closed1:(Rows.deskLongRow.unfollowed==Tryz.pinned.checked.prog.unfollowed 5)=true:=by kernel_rfl
theorem closed2:(Rows.deskLongRow.recurses==Tryz.pinned.checked.prog.recurses 5)=true:=by kernel_rfl
theorem closed3:(Rows.deskLongRow.named==Tryz.pinned.checked.prog.varsNamed 5)=true:=by kernel_rfl
theorem closed:joinedFacts Tryz.pinned.checked.prog 5 Tryz.f5 (OpenSpec.ofChange Rows.deskLongSpec).bare Rows.deskLongRow=true:=by
 unfold joinedFacts;rw [closed0,closed1,closed2,closed3]
 kernel_rfl
theorem said:Rows.DeskLongSaid:=
 OpenClaim.holds_of_cond 5 Tryz.f5 rfl rfl rfl rfl rfl rfl rfl ⟨rfl,rfl,rfl,rfl,rfl⟩ rfl rfl rfl rfl rfl (by kernel_rfl) Tryz.func5 closed
  (of_decide_eq_true (by kernel_rfl)) (by unfold Func.isWrapper;first|(rw [if_pos (by decide+kernel)];kernel_rfl)|(rw [if_neg (by decide+kernel)];exact⟨rfl,rfl⟩))
  (λos started H enc _ F=>by rw [OpenClaim.pre_eq_preRow];exact lifted os started H enc F)
theorem plain(f:FuncId)(fn:Func)(hf:Tryz.pinned.checked.prog.funcNamed "rostrum/rostrumlaw20.DeskLong" =some f)(hfn:Tryz.pinned.checked.prog.funcs[f]?=some fn):
 true=Tryz.pinned.checked.prog.looks [] /\∀(j:Nat) t,fn.params[j]?=some t->Tryz.pinned.checked.prog.wantsStandIn t=false:=by
 obtain rfl:f=5:=Option.some.inj ((show Tryz.prog.funcNamed "rostrum/rostrumlaw20.DeskLong" =some 5 by kernel_rfl).symm.trans hf)|>.symm
 obtain rfl:fn=Tryz.f5:=(Option.some.inj (Tryz.func5.symm.trans hfn)).symm;refine⟨by kernel_rfl,λj t ht=>?_⟩;rw [Tryz.params5] at ht
 have:t=3:=by
  match j,ht with
  |0,h=>simpa using h.symm
  |1,h=>simpa using h.symm
  |n+2,h=>simp at h
 subst this;exact(show Tryz.prog.wantsStandIn 3=false by kernel_rfl)
theorem card:Rows.DeskLongCardSaid:=
 Claim7.holds_tied_plain_at .later [] _ _ _ _ said (λ_ h=>by cases h) (by kernel_rfl) (λ_ h=>by cases h) deskLong_row_tie rfl ⟨rfl,rfl⟩ (by kernel_rfl) rfl plain (by kernel_rfl)
end Go.Proofs.YtofppfoioodblaaGreatDoor.deskLong
