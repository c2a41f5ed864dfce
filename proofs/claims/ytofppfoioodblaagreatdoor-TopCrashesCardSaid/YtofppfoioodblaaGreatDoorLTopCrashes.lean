/- PROVED HERE: rostrumtop.TopCrashes returns true for every input, and its arguments read afterwards as they did; the listed variable holds what the program's text lays (the card ties it). No further condition. -/
import Derived.Test.YtofppfoioodblaaGreatDoorTC38
namespace Go.Proofs.YtofppfoioodblaaGreatDoor.topCrashes
open Go Go.RowKit Go.ChangeShapes Go.WideShapes Go.ChangeAt
set_option maxRecDepth 100000 in
theorem contract(H:Type)(enc:TypeId×Value->H)(W:World)(base:Nat)(args:Array Value)(ds gs:List (DataW H))(before:List MemPlace)
 (hval:∀(j:Nat) t v,Tryz.f4.params[j]?=some t->args[j]?=some v->Value.okWide Tryz.prog W .any base t v)
 (hW:DataW.Whole enc Tryz.prog Tryz.f4.params.toList Rows.topCrashesSpec.vars false W args.toList ds gs before) (hL:laidMetH Tryz.prog Rows.topCrashesRow.laid W):
 Calls Tryz.prog 4 args W λe W'=>∃v,e=.returned v/\Rows.topCrashesSpec.post enc Tryz.prog Tryz.f4 false true false false W args v W':=by
 obtain⟨a,he⟩:=zdl hL;have af:=hW;obtain⟨p,q,ac,hV,rfl,_,_⟩:=hW;have hA:DataW.TrodAll enc Tryz.prog W 0 (λ_=>true) true Tryz.f4.params.toList args.toList ds p:=ac;rw [Tryz.params4] at hA hval;obtain⟨v0,an,d0,ak,p0,q0,ad,rfl,rfl,h0,r0⟩:=trodAll_cons hA;obtain⟨v1,ao,d1,ah,p1,q1,rfl,rfl,rfl,h1,r1⟩:=trodAll_cons r0;obtain⟨v2,am,d2,ai,p2,q2,rfl,rfl,rfl,h2,r2⟩:=trodAll_cons r1;obtain⟨v3,aj,d3,al,p3,q3,rfl,rfl,rfl,h3,r3⟩:=trodAll_cons r2;obtain⟨rfl,rfl,rfl⟩:=trodAll_nil r3;obtain rfl:args=#[v0,v1,v2,v3]:=by cases args;simp_all
 obtain⟨rfl,rfl⟩:=trodVars_none hV;obtain⟨x,rfl,_,_,_⟩:=open_int Tryz.underlying3 (hval 0 3 v0 rfl rfl) h0;obtain⟨y,rfl,_,_,_⟩:=open_int Tryz.underlying3 (hval 1 3 v1 rfl rfl) h1;obtain⟨l,ag⟩:=QR (hval 2 22 v2 rfl rfl) h2;obtain⟨m,ae⟩:=QR (hval 3 22 v3 rfl rfl) h3;have aa:=Qp a x y l m v2 v3 W he ag ae;clear ac;refine aa.mono λe W' ⟨he,hg⟩=>?_
 subst he;exact⟨_,rfl,zjB zk7 (by kernel_rfl) (by kernel_rfl) rfl Tryz.underlying4 rfl af hg⟩
theorem reads(os:Os){H:Type}(enc:TypeId×Value->H):∃places,DataW.whole enc Tryz.prog ((V4 os).forCall (λ_ _=>0) ⟨#[],#[.int .i64 0,.int .i64 0,.slice none 0 0,.slice none 0 0],[]⟩).memory Tryz.f4.params.toList Rows.topCrashesSpec.vars false (#[.int .i64 0,.int .i64 0,.slice none 0 0,.slice none 0 0]:Array Value).toList 8=some ([.lit (.int .i64 0),.lit (.int .i64 0),.nil,.nil],[],places):=
 ⟨[],by kernel_rfl⟩
set_option maxRecDepth 100000 in
theorem lifted(os:Os)(started:os.Started)(H:Type)(enc:TypeId×Value->H)(F:Stop.Interp):
 ReturnsInHanded {} Tryz.checked os 4 .any ((OpenSpec.ofChange Rows.topCrashesSpec).preRow enc Tryz.prog Tryz.f4 Rows.topCrashesRow.domain false Rows.topCrashesRow.laid) (((OpenSpec.ofChange Rows.topCrashesSpec).at F).post enc Tryz.prog Tryz.f4 false true false false):=by
 obtain⟨aa,hx⟩:=reads os enc
 refine returnsInHanded_of_row (C:=Tryz.checked) (s:=OpenSpec.ofChange Rows.topCrashesSpec) own started (by kernel_rfl) Tryz.func4
  (witness_row_atRef (enc:=enc) (C:=Tryz.checked) false (V4 os) #[.int .i64 0,.int .i64 0,.slice none 0 0,.slice none 0 0] rfl (by kernel_rfl) (by kernel_rfl) (by kernel_rfl)
   (OpenSpec.preRow_of_cond 8 hx (by kernel_rfl) (λk hk=>by cases hk) (by kernel_rfl) (zjI os _))) ?_
 intro W base args ds gs before hval hW _ _ _ hL _ _;exact contract H enc W base args ds gs before hval hW hL
theorem closed0:(Rows.topCrashesRow.inPlace==Tryz.pinned.checked.prog.inPlace 4)=true:=by kernel_rfl
theorem closed1:(Rows.topCrashesRow.unfollowed==Tryz.pinned.checked.prog.unfollowed 4)=true:=by kernel_rfl
theorem closed2:(Rows.topCrashesRow.recurses==Tryz.pinned.checked.prog.recurses 4)=true:=by kernel_rfl
theorem closed3:(Rows.topCrashesRow.named==Tryz.pinned.checked.prog.varsNamed 4)=true:=by kernel_rfl
theorem closed:joinedFacts Tryz.pinned.checked.prog 4 Tryz.f4 (OpenSpec.ofChange Rows.topCrashesSpec).bare Rows.topCrashesRow=true:=by
 unfold joinedFacts;rw [closed0,closed1,closed2,closed3]
 kernel_rfl
theorem said:Rows.TopCrashesSaid:=
 OpenClaim.holds_of_cond 4 Tryz.f4 rfl rfl rfl rfl rfl rfl rfl ⟨rfl,rfl,rfl,rfl,rfl⟩ rfl rfl rfl rfl rfl (by kernel_rfl) Tryz.func4 closed
  (of_decide_eq_true (by kernel_rfl)) (by unfold Func.isWrapper;first|(rw [if_pos (by decide+kernel)];kernel_rfl)|(rw [if_neg (by decide+kernel)];exact⟨rfl,rfl⟩))
  (λos started H enc _ F=>by rw [OpenClaim.pre_eq_preRow];exact lifted os started H enc F)
theorem plain(f:FuncId)(fn:Func)(hf:Tryz.pinned.checked.prog.funcNamed "rostrum/rostrumtop.TopCrashes" =some f)(hfn:Tryz.pinned.checked.prog.funcs[f]?=some fn):
 true=Tryz.pinned.checked.prog.looks [] /\∀(j:Nat) t,fn.params[j]?=some t->Tryz.pinned.checked.prog.wantsStandIn t=false:=by
 obtain rfl:f=4:=Option.some.inj ((show Tryz.prog.funcNamed "rostrum/rostrumtop.TopCrashes" =some 4 by kernel_rfl).symm.trans hf)|>.symm
 obtain rfl:fn=Tryz.f4:=(Option.some.inj (Tryz.func4.symm.trans hfn)).symm;refine⟨by kernel_rfl,λj t ht=>?_⟩;rw [Tryz.params4] at ht
 have:t=3∨t=22:=by
  match j,ht with
  |0,h=>exact .inl (by simpa using h.symm)
  |1,h=>exact .inl (by simpa using h.symm)
  |2,h=>exact .inr (by simpa using h.symm)
  |3,h=>exact .inr (by simpa using h.symm)
  |n+4,h=>simp at h
 rcases this with rfl|rfl
 ·exact(show Tryz.prog.wantsStandIn 3=false by kernel_rfl)
 exact(show Tryz.prog.wantsStandIn 22=false by kernel_rfl)
theorem card:Rows.TopCrashesCardSaid:=
 Claim7.holds_tied_plain_at .later [] _ _ _ _ said (λ_ h=>by cases h) (by kernel_rfl) (λ_ h=>by cases h) topCrashes_row_tie rfl ⟨rfl,rfl⟩ (by kernel_rfl) rfl plain (by kernel_rfl)
end Go.Proofs.YtofppfoioodblaaGreatDoor.topCrashes
