/- PARTS OF THE PROOF. -/
import Derived.Test.YtofppfoioodblaaGreatDoorTT36
import Derived.Test.YtofppfoioodblaaGreatDoorTT45
set_option maxRecDepth 8000
set_option maxHeartbeats 4000000
open Go.Proofs.Tryz
namespace Go.Proofs.YtofppfoioodblaaGreatDoor
section
open Go
abbrev Zl:=Nat×Nat
def jx(S:zf)(p:Zl):Option Zl:=
 if p.1=0 then(if p.2<S.nodes.length then(if(zr S p.2).down then none else some (0,p.2+1))else some (1,0))
 else if p.1=1 then(if p.2<S.nodes.length then(if zec S p.2 then none else some (2,p.2))else none)
 else(if S.notes.length=0 then some (1,p.2+1)else none)
def zjG(S:zf)(p:Zl):Prop:=p.1=1/\S.nodes.length<=p.2
def Y1(p:Zl):OpD:=if p.1=0 then⟨9,p.2,0,0,0,[]⟩else if p.1=1 then⟨2,p.2,0,0,0,[]⟩else⟨3,0,0,0,0,[]⟩
def zhP(p:Zl):Zl:=if p.1=0 then(0,p.2+1)else(2,p.2)
inductive Y2(S:zf):Zl->Zl->Prop
 |refl (p):Y2 S p p
 |step {p q r} :jx S p=some q->Y2 S q r->Y2 S p r
def zia(S:zf)(q:Zl):Prop:=jx S q=none/\¬zjG S q
theorem Y2.snoc {S:zf}{p q r:Zl}(h:Y2 S p q)(h2:jx S q=some r):Y2 S p r:=by
 induction h with
 |refl=>exact .step h2 (.refl _)
 |step h1 _ ih=>exact .step h1 (ih h2)
theorem Y2.det {S:zf}{p q r:Zl}(h:Y2 S p q)(h2:Y2 S p r)(hq:jx S q=none)(hr:jx S r=none):q=r:=by
 induction h with
 |refl=>
  cases h2 with
  |refl=>rfl
  |step h3 _=>rw [hq] at h3;cases h3
 |step h1 _ ih=>
  cases h2 with
  |refl=>rw [hr] at h1;cases h1
  |step h3 h4=>rw [h1] at h3;cases h3;exact ih h4 hq
theorem zjG.none {S:zf}{q:Zl}(h:zjG S q):jx S q=none:=by
 unfold zjG at h;unfold jx;rw [if_neg (by omega),if_pos h.1,if_neg (by omega)]
inductive v8(s:StD):Nat->Zl->zf->zf->Prop
 |done {p q S} :Y2 S p q->zjG S q->v8 s 0 p S S
 |step {p q S S' f} :Y2 S p q->zia S q->v8 s f (zhP q) (doW s S (Y1 q)).1 S'->v8 s (f+1) p S S'
theorem v8.next {s:StD}{f:Nat}{p q:Zl}{S S':zf}(h:v8 s f p S S')(hs:Y2 S p q)(hy:zia S q):∃g,f=g+1/\v8 s g (zhP q) (doW s S (Y1 q)).1 S':=by
 cases h with
 |done h1 h2=>exact absurd (by rw [hs.det h1 hy.1 h2.none];exact h2) hy.2
 |step h1 h2 h3=>rw [hs.det h1 hy.1 h2.1];exact⟨_,rfl,h3⟩
theorem v8.fin {s:StD}{f:Nat}{p q:Zl}{S S':zf}(h:v8 s f p S S')(hs:Y2 S p q)(he:zjG S q):f=0/\S'=S:=by
 cases h with
 |done h1 h2=>exact⟨rfl,rfl⟩
 |step h1 h2 h3=>exact absurd (by rw [← hs.det h1 he.none h2.1];exact he) h2.2
inductive YB(s:StD):Nat->Nat->zf->zf->Bool->Prop
 |none {S} :YB s 0 0 S S (qs S)
 |rests {r S} :qs S=true->YB s (r+1) 0 S S true
 |round {r f g S S1 S' b} :qs S=false->v8 s f (0,0) S S1->YB s r g S1 S' b->YB s (r+1) (f+g) S S' b
def zjl(S:zf):Nat->Zl->Zl
 |0,p=>p
 |n+1,p=>match jx S p with|none=>p|some q=>zjl S n q
theorem zdu(S:zf):∀(n:Nat)(p:Zl),Y2 S p (zjl S n p)
 |0,p=>.refl p
 |n+1,p=>by
  unfold zjl
  cases h:jx S p with
  |none=>exact .refl p
  |some q=>exact .step h (zdu S n q)
def zk9(s:StD):Nat->Zl->zf->Option zf
 |0,_,_=>none
 |n+1,p,S=>
  if(jx S (zjl S 100 p)).isSome then none
  else if(zjl S 100 p).1=1/\S.nodes.length<=(zjl S 100 p).2 then some S
  else zk9 s n (zhP (zjl S 100 p)) (doW s S (Y1 (zjl S 100 p))).1
theorem zhQ(s:StD):∀(n:Nat)(p:Zl)(S S':zf),zk9 s n p S=some S'->∃f,f<=n/\v8 s f p S S'
 |0,_,_,_,h=>by cases h
 |n+1,p,S,S',h=>by
  unfold zk9 at h
  split at h
  ·cases h
  ·rename_i h1
   have h1':jx S (zjl S 100 p)=none:=by simpa using h1
   split at h
   ·rename_i h2
    cases h
    exact⟨0,Nat.zero_le _,.done (zdu S 100 p) h2⟩
   ·rename_i h2
    obtain⟨f,hf,hr⟩:=zhQ s n _ _ _ h;exact⟨f+1,by omega,.step (zdu S 100 p) ⟨h1',h2⟩ hr⟩
def zfY(s:StD)(m:Nat):Nat->zf->Option (zf×Bool)
 |0,S=>some (S,qs S)
 |r+1,S=>if qs S then some (S,true)else match zk9 s m (0,0) S with|none=>none|some S1=>zfY s m r S1
theorem zek(s:StD)(m:Nat):∀(r:Nat)(S S':zf)(b:Bool),zfY s m r S=some (S',b)->∃f,f<=r*m/\YB s r f S S' b
 |0,S,S',b,h=>by
  unfold zfY at h
  cases h
  exact⟨0,by simp,.none⟩
 |r+1,S,S',b,h=>by
  unfold zfY at h
  split at h
  ·rename_i h1
   cases h
   exact⟨0,Nat.zero_le _,.rests h1⟩
  ·rename_i h1
   split at h
   ·cases h
   ·rename_i S1 h2
    obtain⟨f,hf,hr⟩:=zhQ s m _ _ _ h2;obtain⟨g,hg,hr2⟩:=zek s m r _ _ _ h;exact⟨f+g,by rw [Nat.add_mul];omega,.round (by simpa using h1) hr hr2⟩
theorem zjm {p:Nat->Prop} :∀n,p n->∃m,p m/\∀k,p k->m<=k:=by
 intro n
 induction n using Nat.strongRecOn with
 |_ n ih=>
  intro hn
  by_cases h:∃k,k<n/\p k
  ·obtain⟨k,hk,hp⟩:=h
   exact ih k hk hp
  ·exact⟨n,hn,λk hk=>by
    rcases Nat.lt_or_ge k n with h1|h1
    ·exact absurd ⟨k,h1,hk⟩ h
    ·exact h1⟩
noncomputable def least(p:Nat->Prop):Nat:=open Classical in if h:∃m,p m/\∀k,p k->m<=k then h.choose else 0
theorem ZB {p:Nat->Prop}(h:∃n,p n):p (least p)/\∀k,p k->least p<=k:=by
 obtain⟨n,hn⟩:=h;have h2:=zjm n hn;unfold least;rw [dif_pos h2];exact h2.choose_spec
end
open Go Go.RowKit Go.Shelf Go.Extern.Stop Go.Stop Go.Extern
attribute [local go_sem] Oper.semAt_some zv zm
theorem zfZ(B:Nat)(w:World):Calls prog 28 #[.pointer (some ⟨B,0,none⟩)] w λe w'=>
 e=.returned (.func (.func 68) #[] #[.pointer (some ⟨w.heap.size,0,none⟩)])/\w'=w.alloc (.cells #[.pointer (some ⟨B,0,none⟩)] 24):=by
 go_enter func28,ntmps28
 go_wp2;go_ret
 exact⟨rfl,rfl⟩
theorem zkr(i:Nat):opV (Y1 (0,i))=.agg #[.int .i64 9,.int .i64 (i:Nat),.int .i64 0,.int .i64 0,.int .u32 0,.string ⟨#[]⟩]:=rfl
theorem zks(i:Nat):opV (Y1 (1,i))=.agg #[.int .i64 2,.int .i64 (i:Nat),.int .i64 0,.int .i64 0,.int .u32 0,.string ⟨#[]⟩]:=rfl
theorem zhR(i:Nat):opV (Y1 (2,i))=.agg #[.int .i64 3,.int .i64 0,.int .i64 0,.int .i64 0,.int .u32 0,.string ⟨#[]⟩]:=rfl
def ZT(J:(Zl×zf)->(Nat->Prop)->World->Prop)(s:StD)(i f:Nat)(wr:World):Prop:=∃σ X S',J σ X wr/\Y2 σ.2 σ.1 (2,i)/\v8 s f σ.1 σ.2 S'
def zkt(s:StD)(v:Int)(qb B:Nat)(K:WK)(N:Nat)(t:List Nat)(σ:Zl×zf)(W:World):Prop:=
 Blk W qb #[.pointer (some ⟨B,0,none⟩)] 24/\σ.2.nodes.length=N/\(∃ow,zL B K σ.2 t ow W)/\(∃k L,zu v k L σ.2)/\∃f S',v8 s f σ.1 σ.2 S'
theorem zf0(s:StD)(v:Int)(qb B:Nat)(K:WK)(N:Nat)(hN16:N<=16)(t:List Nat)(S0:zf):
 XG Fence.wide 2 prog 68 #[.pointer (some ⟨qb,0,none⟩)] (λq:Zl=> #[opV (Y1 q)])
  (λ(σ:Zl×zf) q=>Y2 σ.2 σ.1 q/\zia σ.2 q) (λσ q=>(zhP q,(doW s σ.2 (Y1 q)).1)) (λσ=>∃q,Y2 σ.2 σ.1 q/\zjG σ.2 q)
  (zkt s v qb B K N t) ((0,0),S0):=by
 intro lp J Jx W hJ hJx hRd hY h0;obtain⟨kq0,hN0,⟨ow0,tv0,lw0,hI0⟩, -, -⟩:=hRd _ _ _ h0;have e0:=kq0.cell;have eB:=hI0.blk.cell;simp only at hN0;rw [hN0] at eB;have hF:Fence.wide.fn 68:=trivial;have hro:Fence.wide.round=none:=rfl;replace hI0:=hid hI0;replace hY:∀σ q X W,J σ X W->Y2 σ.2 σ.1 q/\zia σ.2 q->_:=hY;refine callsIn_of_wp func68 rfl hF ?_ hro;simp only [ntmps68,R8,Nat.reduceAdd,Nat.reduceSub]
 gi_wp2
 gi_loopw [11] (λp11 wr=>∃(i:Nat)(σ:Zl×zf)(X:Nat->Prop),p11=.int .i64 (i:Nat)/\i<=N/\J σ X wr/\Y2 σ.2 σ.1 (0,i)) (λp11 _=>N - (intOf p11).toNat)
 case atStart=>exact⟨0,_,_,rfl,Nat.zero_le _,h0,.refl _⟩
 case round=>
  obtain⟨i,σ,X,rfl,hi,hJs,hsil⟩:=hrel;clear e0 eB h0 kq0;obtain⟨kq,hN,⟨ow,tv,lw,hI⟩,⟨k,L,hG⟩,hrun⟩:=hRd _ _ _ hJs;have eq:=kq.cell;have eB:=hI.blk.cell;rw [hN] at eB
  by_cases hiN:i<N
  ·have t2:decide ((i:Int)<(N:Int))=true:=by simpa using hiN
   have y0:(0:Int)<=(i:Int):=by omega
   have y1:(i:Int)<(N:Int):=by omega
   have hwi:IntKind.i64.wrap ((i:Int)+1)=(i:Int)+1:=by rw [N8];omega
   obtain⟨b,hnb,px,sb,lb,pb,av,hNd⟩:=hI.node (by omega) (hG.node (i:=i) (by omega)).1;have hnc:=hI.nodeCell hnb;have hdw:=qL (px:=px) (sb:=sb) (lb:=lb) (pb:=pb) (av:=av) (n:=zr σ.2 i) (B:=b) _ hNd.blk;replace hI:=hid hI;replace hG:=hid hG;replace hNd:=hid hNd;replace hnb:=hid hnb
   cases hd:(zr σ.2 i).down with
   |true=>
    rw [hd] at hdw;have hyl:zia σ.2 (0,i):=⟨by unfold jx;rw [if_pos rfl,if_pos (by simp only;omega),if_pos hd],λh=>by cases h.1⟩;obtain⟨fn,tmps,assign,body,hy,hR⟩:=hY σ (0,i) X wr hJs ⟨hsil,hyl⟩;simp only [zkr] at hy hR;replace hdw:=hid hdw;replace hd:=hid hd
    gi_wp2_with fail
    refine(callsIn_wide.2 hdw.out).mono ?_;rintro e w3⟨rfl,hw3⟩;obtain rfl:=hw3.symm
    gi_wp2
    refine hR.mono ?_;rintro e W'(⟨rfl,hJ', -⟩|⟨rfl,hx'⟩)
    ·clear hR hy
     gi_wp2
     go_roundw
     case rel=>exact⟨i+1,_,X,by simp,by omega,hJ',.refl _⟩
     case measure=>simp [intOf];omega
    ·skip
     gi_wp2
     refine bodyPost_ret (results_none rfl _ _ _) rfl ?_;exact⟨⟨_,rfl⟩,.inr ⟨_,hx'⟩⟩
   |false=>
    rw [hd] at hdw;have hsl:jx σ.2 (0,i)=some (0,i+1):=by unfold jx;rw [if_pos rfl,if_pos (by simp only;omega),if_neg (by simp only [hd];simp)]
    replace hdw:=hid hdw;replace hd:=hid hd
    gi_wp2_with fail
    refine(callsIn_wide.2 hdw.out).mono ?_;rintro e w3⟨rfl,hw3⟩;obtain rfl:=hw3.symm
    gi_wp2
    go_roundw
    case rel=>exact⟨i+1,σ,X,by simp,by omega,hJs,hsil.snoc hsl⟩
    case measure=>simp [intOf];omega
  ·obtain rfl:N=i:=by omega
   have t2:decide ((N:Int)<(N:Int))=false:=by simp
   have hsl:jx σ.2 (0,N)=some (1,0):=by unfold jx;rw [if_pos rfl,if_neg (by simp only;omega)]
   replace hI:=hid hI;replace hG:=hid hG
   gi_wp2
   gi_loopw [31] (λp31 wr=>∃(i:Nat)(σ:Zl×zf)(X:Nat->Prop),p31=.int .i64 (i:Nat)/\i<=N/\J σ X wr/\Y2 σ.2 σ.1 (1,i)) (λp31 _=>N - (intOf p31).toNat)
   case atStart=>exact⟨0,σ,X,rfl,Nat.zero_le _,hJs,hsil.snoc hsl⟩
   case round=>
    clear eB eq hsil hsl hJs kq hN hI hG hrun hi hiN t2;obtain⟨i,σ,X,rfl,hi,hJs,hsil⟩:=hrel;obtain⟨kq,hN,⟨ow,tv,lw,hI⟩,⟨k,L,hG⟩,hrun⟩:=hRd _ _ _ hJs;have eq:=kq.cell
    by_cases hiN:i<N
    ·have t2:decide ((i:Int)<(N:Int))=true:=by simpa using hiN
     have hwi:IntKind.i64.wrap ((i:Int)+1)=(i:Int)+1:=by rw [N8];omega
     have hdu:=zej hG i (by omega) hI;replace hI:=hid hI;replace hG:=hid hG
     cases hd:zec σ.2 i with
     |true=>
      rw [hd] at hdu;have hyl:zia σ.2 (1,i):=⟨by unfold jx;rw [if_neg (by simp),if_pos rfl,if_pos (by simp only;omega),if_pos hd],λh=>by have:=h.2;simp only at this;omega⟩;obtain⟨f0,S',hrun⟩:=hrun;obtain⟨g0, -,hrun2⟩:=hrun.next hsil hyl;replace hrun:=hid hrun;replace hrun2:=hid hrun2;replace hdu:=hid hdu;replace hd:=hid hd
      gi_wp2_with fail
      refine(callsIn_wide.2 hdu.out).mono ?_;rintro e w3⟨rfl,hb3⟩;have hJ3:J σ X w3:=hJ _ _ _ _ _ hJs (Mod.of_below X hb3) (λk h=>.inl h);obtain⟨fn,tmps,assign,body,hy,hR⟩:=hY σ (1,i) X w3 hJ3 ⟨hsil,hyl⟩;simp only [zks] at hy hR
      gi_wp2
      refine hR.mono ?_;rintro e W'(⟨rfl,hJ', -⟩|⟨rfl,hx'⟩)
      ·clear hR hy
       have hD0:ZT J s i g0 W':=⟨_,X,S',hJ',.refl _,hrun2.out⟩;clear hrun2 hrun eq hJs hJ3 hsil kq hN hJ'
       gi_wp2
       gi_loopw [] (λwr=>∃f,ZT J s i f wr) (λwr=>least (λf=>ZT J s i f wr))
       case atStart=>exact⟨g0,hD0⟩
       case round=>
        obtain⟨hD,hmin⟩:=ZB hrel;obtain⟨f,hf⟩:∃f,least (λf=>ZT J s i f wr)=f:=⟨_,rfl⟩;rw [hf] at hD;obtain⟨σ,X,S',hJs,hsil,hrun⟩:=hD;clear hrel hmin;obtain⟨kq,hN,⟨ow,tv,lw,hI⟩,⟨k,L,hG⟩, -⟩:=hRd _ _ _ hJs;have eq:=kq.cell;have hfl:=Ja _ hI hG.notesN;replace hfl:=hid hfl;replace hI:=hid hI;replace hG:=hid hG;replace hrun:=hid hrun;replace hf:=hid hf
        by_cases hn0:σ.2.notes.length=0
        ·have t5:decide (0<(σ.2.notes.length:Int))=false:=decide_eq_false (by omega)
         gi_wp2_with fail
         refine(callsIn_wide.2 hfl.out).mono ?_;rintro e w3⟨rfl,hb3⟩;have hJ3:J σ X w3:=hJ _ _ _ _ _ hJs (Mod.of_below X hb3) (λk h=>.inl h)
         gi_wp2
         go_roundw
         case rel=>exact⟨i+1,σ,X,by simp,by omega,hJ3,hsil.snoc (by unfold jx;rw [if_neg (by simp),if_neg (by simp),if_pos hn0])⟩
         case measure=>simp [intOf];omega
        ·have t5:decide (0<(σ.2.notes.length:Int))=true:=decide_eq_true (by omega)
         have hyl:zia σ.2 (2,i):=⟨by unfold jx;rw [if_neg (by simp),if_neg (by simp),if_neg hn0],λh=>by cases h.1⟩;obtain⟨g,hg,hrun2⟩:=hrun.out.next hsil hyl;replace hrun2:=hid hrun2
         gi_wp2_with fail
         refine(callsIn_wide.2 hfl.out).mono ?_;rintro e w3⟨rfl,hb3⟩;have hJ3:J σ X w3:=hJ _ _ _ _ _ hJs (Mod.of_below X hb3) (λk h=>.inl h);obtain⟨fn,tmps,assign,body,hy,hR⟩:=hY σ (2,i) X w3 hJ3 ⟨hsil,hyl⟩;simp only [zhR] at hy hR
         gi_wp2
         refine hR.mono ?_;rintro e W'(⟨rfl,hJ', -⟩|⟨rfl,hx'⟩)
         ·clear hR hy
          have hD':ZT J s i g W':=⟨_,X,S',hJ',.refl _,hrun2.out⟩
          gi_wp2
          go_roundw
          case rel=>exact⟨g,hD'⟩
          case measure=>exact Nat.lt_of_le_of_lt ((ZB ⟨g,hD'⟩).2 g hD') (by rw [hf.out];omega)
         ·skip
          gi_wp2
          refine bodyPost_ret (results_none rfl _ _ _) rfl ?_;exact⟨⟨_,rfl⟩,.inr ⟨_,hx'⟩⟩
      ·skip
       gi_wp2
       refine bodyPost_ret (results_none rfl _ _ _) rfl ?_;exact⟨⟨_,rfl⟩,.inr ⟨_,hx'⟩⟩
     |false=>
      rw [hd] at hdu;have hsl:jx σ.2 (1,i)=some (2,i):=by unfold jx;rw [if_neg (by simp),if_pos rfl,if_pos (by simp only;omega),if_neg (by simp only [hd];simp)]
      obtain⟨f0,S',hrun⟩:=hrun;replace hrun:=hid hrun;replace hdu:=hid hdu;replace hd:=hid hd
      gi_wp2_with fail
      refine(callsIn_wide.2 hdu.out).mono ?_;rintro e w3⟨rfl,hb3⟩;have hJ3:J σ X w3:=hJ _ _ _ _ _ hJs (Mod.of_below X hb3) (λk h=>.inl h);have hD0:ZT J s i f0 w3:=⟨_,X,S',hJ3,hsil.snoc hsl,hrun.out⟩;clear hrun eq hJs hJ3 hsil hsl kq hN
      gi_wp2
      gi_loopw [] (λwr=>∃f,ZT J s i f wr) (λwr=>least (λf=>ZT J s i f wr))
      case atStart=>exact⟨f0,hD0⟩
      case round=>
       obtain⟨hD,hmin⟩:=ZB hrel;obtain⟨f,hf⟩:∃f,least (λf=>ZT J s i f wr)=f:=⟨_,rfl⟩;rw [hf] at hD;obtain⟨σ,X,S',hJs,hsil,hrun⟩:=hD;clear hrel hmin;obtain⟨kq,hN,⟨ow,tv,lw,hI⟩,⟨k,L,hG⟩, -⟩:=hRd _ _ _ hJs;have eq:=kq.cell;have hfl:=Ja _ hI hG.notesN;replace hfl:=hid hfl;replace hI:=hid hI;replace hG:=hid hG;replace hrun:=hid hrun;replace hf:=hid hf
       by_cases hn0:σ.2.notes.length=0
       ·have t5:decide (0<(σ.2.notes.length:Int))=false:=decide_eq_false (by omega)
        gi_wp2_with fail
        refine(callsIn_wide.2 hfl.out).mono ?_;rintro e w3⟨rfl,hb3⟩;have hJ3:J σ X w3:=hJ _ _ _ _ _ hJs (Mod.of_below X hb3) (λk h=>.inl h)
        gi_wp2
        go_roundw
        case rel=>exact⟨i+1,σ,X,by simp,by omega,hJ3,hsil.snoc (by unfold jx;rw [if_neg (by simp),if_neg (by simp),if_pos hn0])⟩
        case measure=>simp [intOf];omega
       ·have t5:decide (0<(σ.2.notes.length:Int))=true:=decide_eq_true (by omega)
        have hyl:zia σ.2 (2,i):=⟨by unfold jx;rw [if_neg (by simp),if_neg (by simp),if_neg hn0],λh=>by cases h.1⟩;obtain⟨g,hg,hrun2⟩:=hrun.out.next hsil hyl;replace hrun2:=hid hrun2
        gi_wp2_with fail
        refine(callsIn_wide.2 hfl.out).mono ?_;rintro e w3⟨rfl,hb3⟩;have hJ3:J σ X w3:=hJ _ _ _ _ _ hJs (Mod.of_below X hb3) (λk h=>.inl h);obtain⟨fn,tmps,assign,body,hy,hR⟩:=hY σ (2,i) X w3 hJ3 ⟨hsil,hyl⟩;simp only [zhR] at hy hR
        gi_wp2
        refine hR.mono ?_;rintro e W'(⟨rfl,hJ', -⟩|⟨rfl,hx'⟩)
        ·clear hR hy
         have hD':ZT J s i g W':=⟨_,X,S',hJ',.refl _,hrun2.out⟩
         gi_wp2
         go_roundw
         case rel=>exact⟨g,hD'⟩
         case measure=>exact Nat.lt_of_le_of_lt ((ZB ⟨g,hD'⟩).2 g hD') (by rw [hf.out];omega)
        ·skip
         gi_wp2
         refine bodyPost_ret (results_none rfl _ _ _) rfl ?_;exact⟨⟨_,rfl⟩,.inr ⟨_,hx'⟩⟩
    ·obtain rfl:N=i:=by omega
     have t2:decide ((N:Int)<(N:Int))=false:=by simp
     replace hI:=hid hI;replace hG:=hid hG
     gi_wp2
     go_end0
     exact⟨⟨_,rfl⟩,.inl ⟨σ,X,⟨_,hsil,rfl,by simp only;omega⟩,hJs⟩⟩
def zk1(Ds:List Nat):List Deferred:=Ds.map λD=> {target:=.collected D,args:=#[] }
def Xt(Ds:List Nat)(W:World):World:=Ds.foldl (λW D=>W.putObj D (.deferred none)) W
def zdv(n0:Nat)(ow:Own)(Ds:List Nat)(W:World):Prop:=Ds.Nodup/\∀D∈Ds,n0<=D/\D<W.heap.size/\ow D=[] /\W.heap[D]?=some (.deferred (some []))
theorem zdv.step {n0:Nat}{t:List Nat}(ht:t≠ []){ow ow':Own}{Ds:List Nat}{W W':World}(h:zdv n0 ow Ds W)(hs:zq t ow W ow' W'):zdv n0 ow' Ds W':=
 ⟨h.1,λD hD=>by
  obtain⟨h1,h2,h3,h4⟩:=h.2 D hD
  exact⟨h1,Nat.lt_of_lt_of_le h2 hs.size,by rw [hs.agree D h2];exact h3,(hs.block h2 (by rw [h3];exact zj ht)).trans h4⟩⟩
theorem zdv.cons {n0:Nat}{ow:Own}{Ds:List Nat}{W:World}(h:zdv n0 ow Ds W){D:Nat}(hD:∀x∈Ds,x<D)(h1:n0<=D)(h2:D<W.heap.size)(h3:ow D=[])(h4:W.heap[D]?=some (.deferred (some []))):zdv n0 ow (D::Ds) W:=
 ⟨List.nodup_cons.2 ⟨λhm=>by have:=hD D hm;omega,h.1⟩,λx hx=>by
  rcases List.mem_cons.1 hx with rfl|hx
  ·exact⟨h1,h2,h3,h4⟩
  ·exact h.2 x hx⟩
theorem Xu {P:Program}{fn:Func}{R:Ending->World->Prop}{tmps:Array Value}{v:Value}{m:Nat} :∀(Ds:List Nat)(W:World),Ds.Nodup->(∀D∈Ds,W.heap[D]?=some (.deferred (some [])))->(results fn tmps).run P (Xt Ds W)=.ok v (Xt Ds W)->R (.returned v) (Xt Ds W)->
 LeavesInM Fence.wide m P fn tmps R (zk1 Ds) .returning W
 | [],W,_,_,hr,hR=>⟨v,hr,hR⟩
 |D::Ds,W,hn,hD,hr,hR=>by
  refine⟨by simp,.inl ⟨D,_,rfl,run_takeDeferred (hD D (by simp)),?_⟩⟩;rw [List.nodup_cons] at hn;refine Xu Ds _ hn.2 (λx hx=>?_) hr hR;have hxd:x≠D:=λe=>hn.1 (e ▸ hx)
  rw [U1 hxd];exact hD x (by simp [hx])
theorem YC {t:List Nat}(ht:t≠ []){A:Own->World->Prop}(hA:yK t A){n0:Nat}{ow0 ow:Own}{W0:World}(hn0:n0=W0.heap.size):∀(Ds:List Nat)(W:World),(∀D∈Ds,n0<=D/\ow D=[])->A ow W->zq t ow0 W0 ow W->A ow (Xt Ds W)/\zq t ow0 W0 ow (Xt Ds W)
 | [],W,_,h,hs=>⟨h,hs⟩
 |D::Ds,W,hD,h,hs=>by
  have h1:=hD D (by simp);exact YC ht hA hn0 Ds _ (λx hx=>hD x (by simp [hx])) (hA.put ht h h1.2 _) (hs.putNew D _ (by omega))
structure OnW(t:List Nat)(ow:Own)(W0:World)(A:Own->World->Prop)(ow':Own)(X:Nat->Prop)(W:World):Prop where
 is:A ow' W
 st:zq t ow W0 ow' W
 xs:∀k,X k->W0.heap.size<=k/\k<W.heap.size/\ow' k=[]
theorem OnW.stab {t:List Nat}(ht:t≠ []){ow:Own}{W0:World}{A:Own->World->Prop}(hA:yK t A){ow':Own}{X X':Nat->Prop}{W W':World}(h:OnW t ow W0 A ow' X W)(hm:Mod X W W')(hx:∀k,X' k->X k∨(W.heap.size<=k/\k<W'.heap.size)):OnW t ow W0 A (ow'.cut W) X' W' where
 is:=hA _ _ _ _ h.is hm.size (λk hk hs=>⟨Own.cut_old hk,hm.block k hk (λhX=>by rw [(h.xs k hX).2.2] at hs;exact zj ht hs)⟩)
 st:=⟨h.st.mod.trans hm (λ_ _ e=>e) (λk hk e=>by have:=(h.xs k e).1;omega),λk hk=>(Own.cut_old (by have:=h.st.size;omega)).trans (h.st.agree k hk)⟩
 xs:=λk hk=>by
  have hs:=hm.size
  rcases hx k hk with h1|h1
  ·have h2:=h.xs k h1
   exact⟨h2.1,by omega,by rw [Own.cut_old h2.2.1];exact h2.2.2⟩
  ·exact⟨by have:=h.st.size;omega,by omega,Own.cut_new h1.1⟩
theorem OnW.step {t:List Nat}{ow:Own}{W0:World}{A A':Own->World->Prop}{ow1 ow2:Own}{X:Nat->Prop}{W W':World}(h:OnW t ow W0 A ow1 X W)(hs:zq t ow1 W ow2 W')(hn:A' ow2 W'):OnW t ow W0 A' ow2 X W' where
 is:=hn
 st:=h.st.trans hs
 xs:=λk hk=>by
  have h2:=h.xs k hk;exact⟨h2.1,by have:=hs.size;omega,by rw [hs.agree k h2.2.1];exact h2.2.2⟩
theorem OnW.saves {t:List Nat}(ht:t≠ []){ow:Own}{W0:World}{A:Own->World->Prop}{ow1 ow2:Own}{X:Nat->Prop}{W W':World}(h:OnW t ow W0 A ow1 X W)(hs:zq t ow1 W ow2 W'):jB X W W':=
 ⟨hs.size,λk hX hk=>hs.block hk (by rw [(h.xs k hX).2.2];exact zj ht)⟩
theorem zhS(q:Zl):zkX (Y1 q):=by
 unfold Y1
 split
 ·exact⟨by simp,by simp,by simp⟩
 ·split
  ·exact⟨by simp,by simp,by simp⟩
  ·exact⟨by simp,by simp,by simp⟩
theorem zb2(q:Zl):zbO (Y1 q).kind:=by
 unfold Y1 zbO
 split
 ·exact .inr (.inr (.inr (.inl rfl)))
 ·split
  ·exact .inr (.inl rfl)
  ·exact .inr (.inr (.inl rfl))
theorem zhT {S:zf}{q:Zl}(hy:zia S q):(Y1 q).kind≠3->0<=(Y1 q).node/\(Y1 q).node<S.nodes.length:=by
 obtain⟨h1,h2⟩:=hy;unfold jx at h1;unfold zjG at h2;unfold Y1
 split
 ·rename_i h0
  rw [if_pos h0] at h1;intro _
  by_cases hl:q.2<S.nodes.length
  ·simp only;omega
  ·rw [if_neg hl] at h1;cases h1
 ·split
  ·intro _;simp only;omega
  ·intro h;exact absurd rfl h
theorem zhU(s:StD)(S:zf)(v:Int)(k L:Nat)(hs:s=zt v)(hG:zu v k L S)(hL:L<=3000000000)(q:Zl):zu v (k+1) (L+16) (doW s S (Y1 q)).1:=by
 rw [hs];exact hG.doesA hL _ (zhS q).len (zb2 q)
theorem yr(S:zf)(i:Nat)(n:zp):(setNode S i n).nodes.length=S.nodes.length:=by unfold setNode;simp
theorem Jd(S:zf)(kind src inst:Int)(b:Nat)(more:List UInt8):(j0 S kind src inst b more).nodes.length=S.nodes.length:=by
 unfold j0
 generalize List.range S.nodes.length=js
 induction js generalizing S with
 |nil=>rfl
 |cons j js ih=>rw [List.foldl_cons,ih,(xH _ _).1]
theorem zdw(S:zf)(i:Nat):(yk S i).1.nodes.length=S.nodes.length:=by
 unfold yk
 split
 ·rfl
 split
 ·rfl
 ·rw [Jd];rfl
theorem Vd(S:zf)(i src:Nat)(inst:Int)(b:Nat)(more:List UInt8):(countPromise S i src inst b more).nodes.length=S.nodes.length:=by
 unfold countPromise
 split
 ·rfl
 split
 ·rfl
 simp only
 split
 ·rfl
 split
 ·rfl
 ·rw [Jd]
theorem zat(S:zf)(i src:Nat)(inst:Int)(b:Nat):(countVote S i src inst b).nodes.length=S.nodes.length:=by
 unfold countVote
 split
 ·rfl
 split
 ·rfl
 simp only
 split
 ·rfl
 ·rw [Jd]
theorem zf1(S:zf)(i:Nat)(f:yQ)(inst:Int)(b:Nat)(more:List UInt8):(yO S i f inst b more).nodes.length=S.nodes.length:=by
 unfold yO
 split
 ·rw [(xH _ _).1]
 split
 ·simp only
  split
  ·rw [(xH _ _).1,yr]
  ·rw [yr]
 ·simp only
  split
  ·rw [(xH _ _).1,yr]
  ·rw [yr]
theorem zdx(S:zf)(i:Nat)(f:yQ):(yA S i f).nodes.length=S.nodes.length:=by
 unfold yA
 split
 ·rfl
 simp only
 split
 ·exact zf1 _ _ _ _ _ _
 split
 ·exact Vd _ _ _ _ _ _
 split
 ·exact zat _ _ _ _ _
 split
 ·rw [yr];rfl
 ·rfl
theorem zjn(S:zf)(p:Int):(xw S p).1.nodes.length=S.nodes.length:=by
 unfold xw
 split
 ·rfl
 split
 ·rfl
 ·simp only
  split
  ·rw [zdx]
  ·rfl
theorem zjo(S:zf)(p:Int):(zke S p).1.nodes.length=S.nodes.length:=by
 unfold zke
 split
 ·rfl
 split<;>rfl
theorem zjp(S:zf)(p:Int):(zkf S p).1.nodes.length=S.nodes.length:=by
 unfold zkf
 split
 ·rfl
 split
 ·rfl
 ·simp only
  split
  ·rfl
  split
  ·show(yq _ _ _).1.nodes.length=_
   rw [(qh _ _ _).1]
  ·rw [(qh _ _ _).1]
theorem zjq(S:zf)(p b:Int)(m:Nat):(zkg S p b m).1.nodes.length=S.nodes.length:=by
 unfold zkg
 split
 ·rfl
 split
 ·rfl
 split
 ·rfl
 split<;>rfl
theorem zel(S:zf):(vZ S).nodes.length=S.nodes.length:=by
 unfold vZ;rw [xX,xX]
theorem zem(s:StD)(S:zf)(o:OpD):(yZ S s o).1.nodes.length=S.nodes.length:=by
 unfold yZ;simp only
 split
 ·rw [yr];rfl
 split
 ·exact zdw _ _
 split
 ·exact zjn _ _
 split
 ·exact zjo _ _
 split
 ·exact zjp _ _
 split
 ·exact zjq _ _ _ _
 split
 ·rw [yr]
 split
 ·rw [yr]
 split
 ·rw [yr];rfl
 split
 ·rw [yr]
 ·rfl
theorem zk2(s:StD)(S:zf)(o:OpD):(doW s S o).1.nodes.length=S.nodes.length:=by
 unfold doW
 split
 ·rfl
 split
 ·rfl
 ·simp only
  split
  ·show(vZ _).nodes.length=_
   rw [zel,zem]
  ·rw [zel,zem]
structure zlo(s:StD)(v:Int)(S':zf)(b:Bool)(r g:Nat)(S:zf):Prop where
 runs:YB s r g S S' b
 good:∃k L,zu v k L S/\L+16*g<=3000000000/\k+g<=100000000
def zk3(s:StD)(v:Int)(S1:zf)(N g:Nat)(σ:Zl×zf):Prop:=∃k L f,zu v k L σ.2/\v8 s f σ.1 σ.2 S1/\L+16*(f+g)<=3000000000/\k+(f+g)<=100000000/\σ.2.nodes.length=N
theorem zk3.next {v:Int}{S1:zf}{N g:Nat}{σ:Zl×zf}(h:zk3 (zt v) v S1 N g σ){q:Zl}(hs:Y2 σ.2 σ.1 q)(hy:zia σ.2 q):zk3 (zt v) v S1 N g (zhP q,(doW (zt v) σ.2 (Y1 q)).1):=by
 obtain⟨k,L,f,hG,hR,h1,h2,h3⟩:=h;obtain⟨f',rfl,hR'⟩:=hR.next hs hy;exact⟨k+1,L+16,f',zhU _ _ v k L rfl hG (by omega) q,hR',by omega,by omega,by rw [zk2];exact h3⟩
variable {B:Nat}{K:WK}{tv:Value}{lp:Nat->Option Nat}{S:zf}{v:Int}{k0 L:Nat}{t:List Nat}{ow:Own}{a:Addr}{w:World}
def zhV(u:Nat->Value)(bx r i:Nat)(Ds:List Nat):Act:={tmps:=#[u 0,.int .i64 (r:Nat),.pointer (some ⟨bx,0,none⟩),u 3,u 4,u 5,u 6,u 7,u 8,u 9,u 10,u 11,u 12,u 13,u 14,.int .i64 (r:Nat),.int .i64 (i:Nat),u 17,u 18,u 19,u 20,u 21,u 22,u 23,u 24,u 25,u 26,u 27,u 28],defers:=zk1 Ds}
def zlp(B:Nat)(K:WK)(v:Int)(S':zf)(b:Bool)(t:List Nat)(ow:Own)(w:World)(bx r:Nat)(a':Act)(W:World):Prop:=
 ∃(i g:Nat)(S:zf)(ow':Own)(Ds:List Nat),a'=zhV (λk=>a'.tmps.getD k undef) bx r i Ds/\
  i<=r/\zlo (zt v) v S' b (r - i) g S/\zq t ow w ow' W/\zL B K S t ow' W/\Blk W bx #[.pointer (some ⟨B,0,none⟩)] 24/\ow' bx=[] /\zdv w.heap.size ow' Ds W
theorem zhW(hG:zu v k0 L S)(hv:known v=true)(ht:t≠ [])(r:Nat)(hr:r<=1000){g:Nat}{S':zf}{b:Bool}(hF:YB (zt v) r g S S' b)(hL:L+16*g<=3000000000)(hk:k0+g<=100000000)
 (h:zL B K S t ow w) (he:jE w a) (hge:ow 2=[]):Calls prog 11 #[.pointer (some ⟨B,0,none⟩),.int .i64 (r:Nat)] w (xZ B K S' t ow w (.tuple #[.bool b,.int .i64 0])):=by
 have hb1:Below w.heap.size w (w.alloc (.cells #[.pointer (some ⟨B,0,none⟩)] 24)):=zi (N2 _ _) _;have hW1:=(zL.loc B K S t).cut h hb1;have kb:Blk (w.alloc (.cells #[.pointer (some ⟨B,0,none⟩)] 24)) w.heap.size #[.pointer (some ⟨B,0,none⟩)] 24:=Blk.new rfl;have hob:(ow.cut w) w.heap.size=[]:=Own.cut_new (N0 _);have hst1:zq t ow w (ow.cut w) (w.alloc (.cells #[.pointer (some ⟨B,0,none⟩)] 24)):=zq.wrap hb1 (zq.refl _ _ _);obtain⟨tv,lp,hI1⟩:=hW1;have hni:=Vj _ hI1;have t1:decide ((r:Int)<0)=false:=by simp
 have t2:decide (1000<(r:Int))=false:=by simp;omega
 have hFF:zlo (zt v) v S' b (r - 0) g S:=⟨hF,k0,L,hG,hL,hk⟩;obtain⟨w1,hw1⟩:∃x,x=w.alloc (.cells #[.pointer (some ⟨B,0,none⟩)] 24):=⟨_,rfl⟩;rw [← hw1] at hb1 hI1 kb hst1 hni;replace hni:=hid hni;replace hI1:=hid hI1;clear hG hF h;refine zl func11 rfl ?_;simp only [ntmps11,R8,Nat.reduceAdd,Nat.reduceSub];go_wp2_with fail
 rw [← hw1];clear hw1;refine hni.out.mono ?_;rintro e w2⟨rfl,hw2⟩;obtain rfl:=hw2.symm;go_wp2;refine wp_loop (zlp B K v S' b t ow w w.heap.size r) (λa' _=>r - (intOf (a'.tmps.getD 16 undef)).toNat) ?_ ?_
 ·exact⟨0,g,S,ow.cut w,[],rfl,Nat.zero_le _,hFF,hst1,⟨tv,lp,hI1.out⟩,kb,hob,List.nodup_nil,λD hD=>by cases hD⟩
 ·rintro a' wr⟨i,g1,S1,ow1,Ds,ha,hi,hfar,hst,⟨tv1,lp1,hI⟩,kx,hox,hmk⟩
  obtain⟨u,hu⟩:∃u,a'=zhV u w.heap.size r i Ds:=⟨_,ha⟩;clear ha hFF hst1 hI1 kb hob hni;subst hu;unfold zhV;obtain⟨hrn,k1,L1,hG1,hL1,hk1⟩:=hfar;have hrs:=zfX hG1 hI;have cx:=kx.cell
  by_cases hir:i<r
  ·have t3:decide ((i:Int)<(r:Int))=true:=by simpa using hir
   have hwi:IntKind.i64.wrap ((i:Int)+1)=(i:Int)+1:=by rw [N8];omega
   obtain⟨r',hr'⟩:∃r',r - i=r'+1:=⟨r - i - 1,by omega⟩;rw [hr'] at hrn
   cases hb:qs S1 with
   |true=>
    rw [hb] at hrs
    obtain⟨rfl,rfl⟩:S1=S'/\b=true:=by
     cases hrn with
     |rests _=>exact⟨rfl,rfl⟩
     |round h1 _ _=>rw [hb] at h1;cases h1
    replace hrs:=hid hrs;replace hI:=hid hI;go_wp2_with fail
    refine hrs.out.mono ?_;rintro e w3⟨rfl,hb3⟩;have hmk3:=hmk.step ht (zq.of_below t ow1 hb3);go_wp2;refine Xu Ds w3 hmk3.1 (λD hD=>(hmk3.2 D hD).2.2.2) (v:=.tuple #[.bool true,.int .i64 0]) (by simp [results,Tryz.results11,go_sem]) ?_;have hW3:zL B K S1 t ow1 w3:=⟨_,_,(zk.loc B K tv1 lp1 S1 t).below hI.out hb3⟩;obtain⟨q1,q2⟩:=YC ht (zL.loc B K S1 t) rfl Ds w3 (λD hD=>⟨(hmk3.2 D hD).1,(hmk3.2 D hD).2.2.1⟩) hW3 (hst.trans (zq.of_below t ow1 hb3));exact⟨rfl,ow1,q2,q1⟩
   |false=>
    rw [hb] at hrs;replace hrs:=hid hrs;replace hI:=hid hI;go_wp2_with fail
    refine hrs.out.mono ?_;rintro e w3⟨rfl,hb3⟩;have cx3:=(kx.call hb3).cell;go_wp2_with fail
    refine(zfZ B _).mono ?_;rintro e w4⟨rfl,hw4⟩
    obtain⟨f2,g2,S2,hgf,hrun,hrn2⟩:∃f2 g2 S2,g1=f2+g2/\v8 (zt v) f2 (0,0) S1 S2/\YB (zt v) r' g2 S2 S' b:=by
     cases hrn with
     |rests h1=>rw [hb] at h1;cases h1
     |round _ h1 h2=>exact⟨_,_,_,rfl,h1,h2⟩
    subst hgf;have hb4:Below wr.heap.size wr w4:=by rw [hw4];exact zi hb3 _
    have kq4:Blk w4 w3.heap.size #[.pointer (some ⟨B,0,none⟩)] 24:=by rw [hw4];exact Blk.new rfl
    have hz3:=hb3.size;have hz4:w3.heap.size<w4.heap.size:=kq4.lt;have hI4:=(zk.loc B K tv1 lp1 S1 t).cut hI.out hb4;have hst14:zq t ow1 wr (ow1.cut wr) w4:=zq.wrap hb4 (zq.refl _ _ _);have hst4:=hst.trans hst14;have hmk4:=hmk.step ht hst14;have hoq4:(ow1.cut wr) w3.heap.size=[]:=Own.cut_new hz3;have hox4:(ow1.cut wr) w.heap.size=[]:=(Own.cut_old kx.lt).trans hox;have kx4:=kx.call hb4;have hn16:=hG1.n0;have hel:=he.lt;have he4:=he.step ht hst4 hge;have hge4:(ow1.cut wr) 2=[]:=by rw [hst4.agree _ hel];exact hge
    have hF4:zk3 (zt v) v S2 S1.nodes.length g2 ((0,0),S1):=⟨k1,L1,f2,hG1,hrun,hL1,hk1,rfl⟩;obtain⟨ow4,ho4⟩:∃o,ow1.cut wr=o:=⟨_,rfl⟩;rw [ho4] at hI4 hst14 hst4 hmk4 hoq4 hox4 hge4;obtain⟨N,hN⟩:∃N,S1.nodes.length=N:=⟨_,rfl⟩;rw [hN] at hF4 hn16;obtain⟨qb,hqb⟩:∃q,w3.heap.size=q:=⟨_,rfl⟩;rw [hqb] at kq4 hoq4 hz4⊢;have hkeep:∀ow' W,zq t ow4 w4 ow' W->∀k,k<w4.heap.size->ow4 k=[] ->W.heap[k]?=w4.heap[k]?:=λow' W hs k h1 h2=>hs.block h1 (by rw [h2];exact zj ht)
    clear hw4 hrs ho4 hqb hrun hrn cx cx3 hst14;go_wp2_with fail
    refine yS (gf:=68) (lb:=#[.pointer (some ⟨qb,0,none⟩)]) rfl (enters_of func68 (by kernel_rfl) rfl)
     (zf0 (zt v) v qb B K N hn16.2 t S1) (λ_=>rfl)
     (λσ X W=>∃ow',OnW t ow4 w4 (zL B K σ.2 t) ow' X W/\zk3 (zt v) v S2 N g2 σ)
     (λ_ _ _=>False)
     (λσ X X' W W' h hm hx=>by obtain⟨ow',h1,h2⟩:=h;exact⟨_,h1.stab ht (zL.loc B K σ.2 t) hm hx,h2⟩)
     (λ_ _ X X' W W' h hm hx=>h)
     (λσ X W h=>by
      obtain⟨ow',h1,k',L',f',h2,h3,h4,h5,h6⟩:=h
      exact⟨kq4.kept (hkeep _ _ h1.st _ hz4 hoq4),h6,⟨_,h1.is⟩,⟨_,_,h2⟩,_,_,h3⟩)
     (λσ X W h=>by obtain⟨ow',h1,h2⟩:=h;exact⟨h1.st.size,λk hk=>(h1.xs k hk).2.1⟩)
     ⟨ow4,⟨⟨_,_,hI4⟩,zq.refl _ _ _,λk h=>h.elim⟩,hF4⟩
     6 37 (λq=> #[.int .i64 (Y1 q).kind,.int .i64 (Y1 q).node,.int .i64 (Y1 q).a,.int .i64 (Y1 q).b,.int .u32 ((Y1 q).mask:Nat),.string (bs (Y1 q).s)]) ?assign ?body ?done ?stop
    case assign=>
     intro l' x W J hJ;rw [zZ] at hJ⊢;unfold opV at hJ⊢
     gi_wp2
     exact hJ
    case stop=>rintro D c X W hD hXD h;exact h.elim
    case body=>
     rintro l' σ q cb X X1 W1 W hI1⟨ow',hOn,hfr⟩⟨hsl,hyl⟩ hcb hcw hXc kc hXl _;have hnext:=hfr.next hsl hyl;obtain⟨k',L',f',h2,h3,h4,h5,h6⟩:=hfr;have kxW:=kx4.kept (hkeep _ _ hOn.st _ kx4.lt hox4);have hdo:=zkZ h2 (by omega) (by omega) hv ht (Y1 q) (zhS q) (zb2 q) (zhT hyl) hOn.is (he4.step ht hOn.st hge4) (by rw [hOn.st.agree _ (by have:=hst4.size;omega)];exact hge4);unfold opV at hdo;rw [zZ];unfold opV;have cxW:=kxW.cell;have ccW:=kc.cell;replace hdo:=hid hdo;replace hnext:=hid hnext
     gi_wp2_with fail
     refine(inRound _ _ hdo.out).mono ?_;rintro e w5⟨rfl,ow5,hs5,hW5⟩
     gi_wp2
     exact⟨⟨ow5,hOn.step hs5 hW5,hnext.out⟩,hOn.saves ht hs5⟩
    case done=>
     rintro D σ X W hD hXD⟨q,hsq,heq⟩⟨ow',hOn,k',L',f',h2,h3,h4,h5,h6⟩ hdef;obtain⟨rfl,hS2⟩:=h3.fin hsq heq;have hstW:=hst4.trans hOn.st;have hmkW:=(hmk4.step ht hOn.st).cons (D:=D) (λx hx=>by have:=(hmk4.2 x hx).2.1;omega) (by have:=hst4.size;omega) (hOn.xs D hXD).2.1 (hOn.xs D hXD).2.2 hdef;have kxW:=kx4.kept (hkeep _ _ hOn.st _ kx4.lt hox4);have hoxW:ow' w.heap.size=[]:=(hOn.st.agree _ kx4.lt).trans hox4;have hfarW:zlo (zt v) v S' b (r - (i+1)) g2 σ.2:=⟨by rw [← hS2,show r - (i+1)=r' by omega];exact hrn2,k',L',h2,by omega,by omega⟩;have hisW:=hOn.is;go_wp2;refine⟨⟨i+1,g2,σ.2,ow',D::Ds,?_,by omega,hfarW,hstW,hisW,kxW,hoxW,hmkW⟩,by simp [intOf];omega⟩;rw [show(i:Int)+1=((i+1:Nat):Int)by simp];rfl
  ·obtain rfl:r=i:=by omega
   have t3:decide ((r:Int)<(r:Int))=false:=by simp
   replace hrs:=hid hrs;replace hI:=hid hI;go_wp2_with fail
   refine hrs.out.mono ?_;rintro e w3⟨rfl,hb3⟩;have hmk3:=hmk.step ht (zq.of_below t ow1 hb3);rw [Nat.sub_self] at hrn;obtain⟨rfl,rfl⟩:S1=S'/\b=qs S1:=by cases hrn;exact⟨rfl,rfl⟩
   go_wp2;refine Xu Ds w3 hmk3.1 (λD hD=>(hmk3.2 D hD).2.2.2) (v:=.tuple #[.bool (qs S1),.int .i64 0]) (by simp [results,Tryz.results11,go_sem]) ?_;have hW3:zL B K S1 t ow1 w3:=⟨_,_,(zk.loc B K tv1 lp1 S1 t).below hI.out hb3⟩;obtain⟨q1,q2⟩:=YC ht (zL.loc B K S1 t) rfl Ds w3 (λD hD=>⟨(hmk3.2 D hD).1,(hmk3.2 D hD).2.2.1⟩) hW3 (hst.trans (zq.of_below t ow1 hb3));exact⟨rfl,ow1,q2,q1⟩
