/- PROVED HERE: rostrumlaw18.WorldSends returns true for every input, and its arguments read afterwards as they did; the listed variable holds what the program's text lays (the card ties it). No further condition. -/
import Derived.Test.YtobnhnidffipjaaGreatDoorK02
import Derived.Test.YtobnhnidffipjaaGreatDoorK06
import Derived.Test.YtobnhnidffipjaaGreatDoorK45
import Derived.Test.YtobnhnidffipjaaGreatDoorK48
import Derived.Test.YtobnhnidffipjaaGreatDoorK49
namespace Go.Proofs.YtobnhnidffipjaaGreatDoor
open Go
def sendsB(n i:Nat):Bool:=
 let r1:=doW (1,0,[]) (vU n 1 65536 (1,0,[])) ⟨2,i,0,0,0,[]⟩
 let r2:=doW (1,0,[]) r1.1 ⟨7,i,0,0,0,[]⟩
 let r3:=doW (1,0,[]) r2.1 ⟨2,i,0,0,0,[]⟩
 decide (r1.2=0)&& decide (r2.2=0)&& decide (r3.2=170)&& decide (r1.1.notes.length=n)&& decide (r3.1.notes.length=n)&& decide (r3.1.trace.length=0)
theorem sends_all:((List.range 17).all λn=>(List.range n).all λi=>sendsB n i)=true:=by kernel_rfl
theorem sends_at {n i:Nat}(hn:n<=16)(hi:i<n):sendsB n i=true:=by
 have h:=List.all_eq_true.1 sends_all n (List.mem_range.2 (by omega));exact List.all_eq_true.1 h i (List.mem_range.2 hi)
end Go.Proofs.YtobnhnidffipjaaGreatDoor
namespace Go.Proofs.YtobnhnidffipjaaGreatDoor
open Go Go.RowKit Go.Shelf Go.Extern.Stop Go.Stop Go.Extern
attribute [local go_sem] Oper.semAt_some zw zm
set_option maxRecDepth 8000 in
set_option maxHeartbeats 2000000 in
theorem worldSends_true(a:Addr)(n at':Int)(w:World)(he:jz w a):Calls Tryz.prog 5 #[.int .i64 n,.int .i64 at'] w λe w'=>e=.returned (.bool true)/\Below w.heap.size w w':=by
 have hsh:=Jp a w he;replace hsh:=G hsh;have hel:=he.lt
 by_cases hn:n<1∨16<n
 ·have hnew:=λW=>zeb n 1 65536 hn W
  replace hnew:=G hnew
  go_enter Tryz.func5,Tryz.ntmps5
  go_wp2_with fail
  refine hsh.out.mono ?_;rintro e w1⟨rfl,hb1⟩;go_wp2_with fail
  refine(hnew.out _).mono ?_;rintro e w2⟨rfl,hw2⟩;obtain rfl:=hw2.symm;go_wp2;go_ret
  exact⟨rfl,hb1⟩
 ·obtain⟨m,rfl⟩:∃m:Nat,n=m:=⟨n.toNat,by omega⟩
  have hm:1<=m/\m<=16:=by omega
  have hnew:=λW hW=>Vj a m hm 1 65536 (by decide) (by omega) (by omega) [1] (λ_=>[]) W hW
  replace hnew:=G hnew
  by_cases hat:at'<0∨(m:Int)<=at'
  ·by_cases h0:at'<0
   ·have t1:decide (at'<0)=true:=by simpa using h0
    go_enter Tryz.func5,Tryz.ntmps5
    go_wp2_with fail
    refine hsh.out.mono ?_;rintro e w1⟨rfl,hb1⟩;have he1:=he.below hb1 hel;go_wp2_with fail
    refine(hnew.out _ he1).mono ?_;rintro e w2⟨B,K,ow2,rfl,hs2,hb2, -, -⟩;go_wp2;go_ret
    exact⟨rfl,ze hb1 hb2⟩
   ·have t1:decide (at'<0)=false:=by simpa using h0
    have t2:decide ((m:Int)<=at')=true:=by simp;omega
    go_enter Tryz.func5,Tryz.ntmps5
    go_wp2_with fail
    refine hsh.out.mono ?_;rintro e w1⟨rfl,hb1⟩;have he1:=he.below hb1 hel;go_wp2_with fail
    refine(hnew.out _ he1).mono ?_;rintro e w2⟨B,K,ow2,rfl,hs2,hb2, -, -⟩;go_wp2;go_ret
    exact⟨rfl,ze hb1 hb2⟩
  ·obtain⟨i,rfl⟩:∃i:Nat,at'=i:=⟨at'.toNat,by omega⟩
   have him:i<m:=by omega
   have t1:decide ((i:Int)<0)=false:=by simp
   have t2:decide ((m:Int)<=(i:Int))=false:=by simp;omega
   have hs:=sends_at hm.2 him;unfold sendsB at hs;simp only [Bool.and_eq_true,decide_eq_true_eq] at hs;rw [← nB1] at hs;have hg0:zr 1 0 0 (vU m 1 65536 (zo 1)):=Zs hm (by omega) (by omega);have hg1:=hg0.does (by omega) ⟨2,i,0,0,0,[]⟩ (by simp) (by simp);have hg2:=hg1.does (by omega) ⟨7,i,0,0,0,[]⟩ (by simp) (by simp);have hg3:=hg2.does (by omega) ⟨2,i,0,0,0,[]⟩ (by simp) (by simp);obtain⟨⟨S1,e1⟩,hd1⟩:∃q,doW (zo 1) (vU m 1 65536 (zo 1)) ⟨2,i,0,0,0,[]⟩=q:=⟨_,rfl⟩;rw [hd1] at hs hg1 hg2 hg3;obtain⟨⟨S2,e2⟩,hd2⟩:∃q,doW (zo 1) S1 ⟨7,i,0,0,0,[]⟩=q:=⟨_,rfl⟩;simp only [hd2] at hs hg1 hg2 hg3;obtain⟨⟨S3,e3⟩,hd3⟩:∃q,doW (zo 1) S2 ⟨2,i,0,0,0,[]⟩=q:=⟨_,rfl⟩;simp only [hd3] at hs hg3;obtain⟨⟨⟨⟨⟨rfl,rfl⟩,rfl⟩,hn1⟩,hn3⟩,ht3⟩:=hs;have u1:((m:Int)==(m:Int))=true:=by simp
   replace hg0:=G hg0;replace hg1:=G hg1;replace hg2:=G hg2;replace hg3:=G hg3;replace hd1:=G hd1;replace hd2:=G hd2;replace hd3:=G hd3;replace hn1:=G hn1;replace hn3:=G hn3;replace ht3:=G ht3
   go_enter Tryz.func5,Tryz.ntmps5
   go_wp2_with fail
   refine hsh.out.mono ?_;rintro e w1⟨rfl,hb1⟩;have he1:=he.below hb1 hel;go_wp2_with fail
   refine(hnew.out _ he1).mono ?_;rintro e w2⟨B,K,ow2,rfl,hs2, -,hW2, -⟩;have h2:zaq [1] w1 B K (vU m 1 65536 (zo 1)) ow2 w2:=⟨hs2,hW2⟩;have q1:=h2.does (by simp) he1 hg0.out (by omega) (by omega) (by decide) ⟨2,i,0,0,0,[]⟩ ⟨by simp,by simp,by simp⟩;rw [hd1.out] at q1;clear h2 hs2 hW2;go_wp2_with fail
   refine q1.mono ?_;rintro e w3⟨rfl,ow3,h3⟩;clear q1;obtain⟨tv3,lp3,hI3⟩:=h3.is;have q2:=yk w3 hI3 hg1.out.notesN;simp only [hn1.out] at q2;replace hI3:=G hI3;replace h3:=G h3;go_wp2_with fail
   refine q2.mono ?_;rintro e w4⟨rfl,hb4⟩;have h4:=h3.out.below hb4;have q3:=h4.does (by simp) he1 hg1.out (by omega) (by omega) (by decide) ⟨7,i,0,0,0,[]⟩ ⟨by simp,by simp,by simp⟩;rw [hd2.out] at q3;clear q2 h4;go_wp2_with fail
   refine q3.mono ?_;rintro e w5⟨rfl,ow5,h5⟩;have q4:=h5.does (by simp) he1 hg2.out (by omega) (by omega) (by decide) ⟨2,i,0,0,0,[]⟩ ⟨by simp,by simp,by simp⟩;rw [hd3.out] at q4;clear q3 h5;go_wp2_with fail
   refine q4.mono ?_;rintro e w6⟨rfl,ow6,h6⟩;clear q4;have hb6:=h6.bel (by simp);obtain⟨tv6,lp6,hI6⟩:=h6.is;have q5:=yk w6 hI6 hg3.out.notesN;simp only [hn3.out] at q5;replace hI6:=G hI6;replace h6:=G h6;replace hb1:=G hb1;go_wp2_with fail
   refine q5.mono ?_;rintro e w7⟨rfl,hb7⟩;have q6:=xg w7 ((zh.loc _ _ _ _ _ _).below hI6.out hb7) (by show S3.trace.length<=_;rw [ht3.out];omega);simp only [ht3.out] at q6;clear q5;go_wp2_with fail
   refine q6.mono ?_;rintro e w8⟨tv8,rfl,hrow8,hb8, -⟩;obtain⟨ta,tc,rfl⟩:=hrow8.wideV.shape;go_wp2;go_ret
   exact⟨rfl,ze hb1.out (ze hb6 (ze hb7 hb8))⟩
end Go.Proofs.YtobnhnidffipjaaGreatDoor
namespace Go.Proofs.YtobnhnidffipjaaGreatDoor.worldSends
open Go Go.RowKit Go.ChangeShapes Go.WideShapes Go.ChangeAt
set_option maxRecDepth 100000 in
theorem contract(H:Type)(enc:TypeId×Value->H)(W:World)(base:Nat)(args:Array Value)(ds gs:List (DataW H))(before:List MemPlace)
 (hval:∀(j:Nat) t v,Tryz.f5.params[j]?=some t->args[j]?=some v->Value.okWide Tryz.prog W .any base t v)
 (hW:DataW.Whole enc Tryz.prog Tryz.f5.params.toList Rows.worldSendsSpec.vars false W args.toList ds gs before) (hL:laidMetH Tryz.prog Rows.worldSendsRow.laid W):
 Calls Tryz.prog 5 args W λe W'=>∃v,e=.returned v/\Rows.worldSendsSpec.post enc Tryz.prog Tryz.f5 false true false false W args v W':=by
 obtain⟨a,he⟩:=Z1 hL;have hW':=hW;obtain⟨p,q,hA0,hV,rfl,_,_⟩:=hW;have hA:DataW.TrodAll enc Tryz.prog W 0 (λ_=>true) true Tryz.f5.params.toList args.toList ds p:=hA0;rw [Tryz.params5] at hA hval;obtain⟨v0,vs0,d0,ds0,p0,q0,hargs,rfl,rfl,h0,r0⟩:=trodAll_cons hA;obtain⟨v1,vs1,d1,ds1,p1,q1,rfl,rfl,rfl,h1,r1⟩:=trodAll_cons r0;obtain⟨rfl,rfl,rfl⟩:=trodAll_nil r1;obtain rfl:args=#[v0,v1]:=by cases args;simp_all
 obtain⟨rfl,rfl⟩:=trodVars_none hV;obtain⟨x,rfl,_,_,_⟩:=open_int Tryz.underlying3 (hval 0 3 v0 rfl rfl) h0;obtain⟨y,rfl,_,_,_⟩:=open_int Tryz.underlying3 (hval 1 3 v1 rfl rfl) h1;have walk:=worldSends_true a x y W he;clear hA0;refine walk.mono λe W' ⟨he,hg⟩=>?_
 subst he;exact⟨_,rfl,Qz zca (by kernel_rfl) (by kernel_rfl) rfl Tryz.underlying4 rfl hW' hg⟩
theorem reads(os:Os){H:Type}(enc:TypeId×Value->H):∃places,DataW.whole enc Tryz.prog ((xI os).forCall (λ_ _=>0) ⟨#[],#[.int .i64 0,.int .i64 0],[]⟩).memory Tryz.f5.params.toList Rows.worldSendsSpec.vars false (#[.int .i64 0,.int .i64 0]:Array Value).toList 8=some ([.lit (.int .i64 0),.lit (.int .i64 0)],[],places):=
 ⟨[],by kernel_rfl⟩
set_option maxRecDepth 100000 in
theorem lifted(os:Os)(started:os.Started)(H:Type)(enc:TypeId×Value->H)(F:Stop.Interp):
 ReturnsInHanded {} Tryz.checked os 5 .any ((OpenSpec.ofChange Rows.worldSendsSpec).preRow enc Tryz.prog Tryz.f5 Rows.worldSendsRow.domain false Rows.worldSendsRow.laid) (((OpenSpec.ofChange Rows.worldSendsSpec).at F).post enc Tryz.prog Tryz.f5 false true false false):=by
 obtain⟨places,hx⟩:=reads os enc
 refine returnsInHanded_of_row (C:=Tryz.checked) (s:=OpenSpec.ofChange Rows.worldSendsSpec) own started (by kernel_rfl) Tryz.func5
  (witness_row_atRef (enc:=enc) (C:=Tryz.checked) false (xI os) #[.int .i64 0,.int .i64 0] rfl (by kernel_rfl) (by kernel_rfl) (by kernel_rfl)
   (OpenSpec.preRow_of_cond 8 hx (by kernel_rfl) (λk hk=>by cases hk) (by kernel_rfl) (QC os _))) ?_
 intro W base args ds gs before hval hW _ _ _ hL _ _;exact contract H enc W base args ds gs before hval hW hL
theorem closed0:(Rows.worldSendsRow.inPlace==Tryz.pinned.checked.prog.inPlace 5)=true:=by kernel_rfl
theorem closed1:(Rows.worldSendsRow.unfollowed==Tryz.pinned.checked.prog.unfollowed 5)=true:=by kernel_rfl
theorem closed2:(Rows.worldSendsRow.recurses==Tryz.pinned.checked.prog.recurses 5)=true:=by kernel_rfl
theorem closed3:(Rows.worldSendsRow.named==Tryz.pinned.checked.prog.varsNamed 5)=true:=by kernel_rfl
theorem closed:joinedFacts Tryz.pinned.checked.prog 5 Tryz.f5 (OpenSpec.ofChange Rows.worldSendsSpec).bare Rows.worldSendsRow=true:=by
 unfold joinedFacts;rw [closed0,closed1,closed2,closed3]
 kernel_rfl
theorem said:Rows.WorldSendsSaid:=
 OpenClaim.holds_of_cond 5 Tryz.f5 rfl rfl rfl rfl rfl rfl rfl ⟨rfl,rfl,rfl,rfl,rfl⟩ rfl rfl rfl rfl rfl (by kernel_rfl) Tryz.func5 closed
  (of_decide_eq_true (by kernel_rfl)) (by unfold Func.isWrapper;first|(rw [if_pos (by decide+kernel)];kernel_rfl)|(rw [if_neg (by decide+kernel)];exact⟨rfl,rfl⟩))
  (λos started H enc _ F=>by rw [OpenClaim.pre_eq_preRow];exact lifted os started H enc F)
theorem plain(f:FuncId)(fn:Func)(hf:Tryz.pinned.checked.prog.funcNamed "rostrum/rostrumlaw18.WorldSends" =some f)(hfn:Tryz.pinned.checked.prog.funcs[f]?=some fn):
 true=Tryz.pinned.checked.prog.looks [] /\∀(j:Nat) t,fn.params[j]?=some t->Tryz.pinned.checked.prog.wantsStandIn t=false:=by
 obtain rfl:f=5:=Option.some.inj ((show Tryz.prog.funcNamed "rostrum/rostrumlaw18.WorldSends" =some 5 by kernel_rfl).symm.trans hf)|>.symm
 obtain rfl:fn=Tryz.f5:=(Option.some.inj (Tryz.func5.symm.trans hfn)).symm;refine⟨by kernel_rfl,λj t ht=>?_⟩;rw [Tryz.params5] at ht
 have:t=3:=by
  match j,ht with
  |0,h=>simpa using h.symm
  |1,h=>simpa using h.symm
  |n+2,h=>simp at h
 subst this;exact(show Tryz.prog.wantsStandIn 3=false by kernel_rfl)
theorem card:Rows.WorldSendsCardSaid:=
 Claim7.holds_tied_plain_at .later [] _ _ _ _ said (λ_ h=>by cases h) (by kernel_rfl) (λ_ h=>by cases h) worldSends_row_tie rfl ⟨rfl,rfl⟩ (by kernel_rfl) rfl plain (by kernel_rfl)
end Go.Proofs.YtobnhnidffipjaaGreatDoor.worldSends
