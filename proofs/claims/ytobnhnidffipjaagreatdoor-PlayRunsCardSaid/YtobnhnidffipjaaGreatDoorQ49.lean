/- PARTS OF THE PROOF. -/
import Derived.Test.YtobnhnidffipjaaGreatDoorQ48
set_option maxRecDepth 8000
set_option maxHeartbeats 4000000
open Go.Proofs.Tryz
namespace Go.Proofs.YtobnhnidffipjaaGreatDoor
section
open Go Go.RowKit Go.Shelf Go.Extern.Stop Go.Stop Go.Extern
attribute [local go_sem] Oper.semAt_some zw zn
theorem zf6(B:Nat)(w:World):Calls prog 30 #[.pointer (some ⟨B,0,none⟩)] w λe w'=>
 e=.returned (.func (.func 45) #[] #[.pointer (some ⟨w.heap.size,0,none⟩)])/\w'=w.alloc (.cells #[.pointer (some ⟨B,0,none⟩)] 24):=by
 go_enter func30,ntmps30
 go_wp2;go_ret
 exact⟨rfl,rfl⟩
theorem zj6(i:Nat):opV (zaz (0,i))=.agg #[.int .i64 9,.int .i64 (i:Nat),.int .i64 0,.int .i64 0,.int .u32 0,.string ⟨#[]⟩]:=rfl
theorem zj7(i:Nat):opV (zaz (1,i))=.agg #[.int .i64 2,.int .i64 (i:Nat),.int .i64 0,.int .i64 0,.int .u32 0,.string ⟨#[]⟩]:=rfl
theorem zhO(i:Nat):opV (zaz (2,i))=.agg #[.int .i64 3,.int .i64 0,.int .i64 0,.int .i64 0,.int .u32 0,.string ⟨#[]⟩]:=rfl
def ZX(J:(ZW×zj)->(Nat->Prop)->World->Prop)(s:StD)(i f:Nat)(wr:World):Prop:=∃σ X S',J σ X wr/\X3 σ.2 σ.1 (2,i)/\ZO s f σ.1 σ.2 S'
def zj8(s:StD)(v:Int)(qb B:Nat)(K:WK)(N:Nat)(t:List Nat)(σ:ZW×zj)(W:World):Prop:=
 Blk W qb #[.pointer (some ⟨B,0,none⟩)] 24/\σ.2.nodes.length=N/\(∃ow,zy B K σ.2 t ow W)/\(∃k L,zr v k L σ.2)/\∃f S',ZO s f σ.1 σ.2 S'
theorem zf7(s:StD)(v:Int)(qb B:Nat)(K:WK)(N:Nat)(hN16:N<=16)(t:List Nat)(S0:zj):
 XE Fence.wide 2 prog 45 #[.pointer (some ⟨qb,0,none⟩)] (λq:ZW=> #[opV (zaz q)])
  (λ(σ:ZW×zj) q=>X3 σ.2 σ.1 q/\zi3 σ.2 q) (λσ q=>(zhM q,(doW s σ.2 (zaz q)).1)) (λσ=>∃q,X3 σ.2 σ.1 q/\zj5 σ.2 q)
  (zj8 s v qb B K N t) ((0,0),S0):=by
 intro lp J Jx W hJ hJx hRd hY h0;obtain⟨kq0,hN0,⟨ow0,tv0,lw0,hI0⟩, -, -⟩:=hRd _ _ _ h0;have e0:=kq0.cell;have eB:=hI0.blk.cell;simp only at hN0;rw [hN0] at eB;have hF:Fence.wide.fn 45:=trivial;have hro:Fence.wide.round=none:=rfl;replace hI0:=G hI0;replace hY:∀σ q X W,J σ X W->X3 σ.2 σ.1 q/\zi3 σ.2 q->_:=hY;refine callsIn_of_wp func45 rfl hF ?_ hro;simp only [ntmps45,R8,Nat.reduceAdd,Nat.reduceSub]
 gi_wp2
 gi_loopw [11] (λp11 wr=>∃(i:Nat)(σ:ZW×zj)(X:Nat->Prop),p11=.int .i64 (i:Nat)/\i<=N/\J σ X wr/\X3 σ.2 σ.1 (0,i)) (λp11 _=>N - (intOf p11).toNat)
 case atStart=>exact⟨0,_,_,rfl,Nat.zero_le _,h0,.refl _⟩
 case round=>
  obtain⟨i,σ,X,rfl,hi,hJs,hsil⟩:=hrel;clear e0 eB h0 kq0;obtain⟨kq,hN,⟨ow,tv,lw,hI⟩,⟨k,L,hG⟩,hrun⟩:=hRd _ _ _ hJs;have eq:=kq.cell;have eB:=hI.blk.cell;rw [hN] at eB
  by_cases hiN:i<N
  ·have t2:decide ((i:Int)<(N:Int))=true:=by simpa using hiN
   have y0:(0:Int)<=(i:Int):=by omega
   have y1:(i:Int)<(N:Int):=by omega
   have hwi:IntKind.i64.wrap ((i:Int)+1)=(i:Int)+1:=by rw [N8];omega
   obtain⟨b,hnb,px,sb,lb,pb,av,hNd⟩:=hI.node (by omega) (hG.node (i:=i) (by omega)).1;have hnc:=hI.nodeCell hnb;have hdw:=qO (px:=px) (sb:=sb) (lb:=lb) (pb:=pb) (av:=av) (n:=zt σ.2 i) (B:=b) _ hNd.blk;replace hI:=G hI;replace hG:=G hG;replace hNd:=G hNd;replace hnb:=G hnb
   cases hd:(zt σ.2 i).down with
   |true=>
    rw [hd] at hdw;have hyl:zi3 σ.2 (0,i):=⟨by unfold j3;rw [if_pos rfl,if_pos (by simp only;omega),if_pos hd],λh=>by cases h.1⟩;obtain⟨fn,tmps,assign,body,hy,hR⟩:=hY σ (0,i) X wr hJs ⟨hsil,hyl⟩;simp only [zj6] at hy hR;replace hdw:=G hdw;replace hd:=G hd
    gi_wp2_with fail
    refine(callsIn_wide.2 hdw.out).mono ?_;rintro e w3⟨rfl,hw3⟩;obtain rfl:=hw3.symm
    gi_wp2
    refine hR.mono ?_;rintro e W'(⟨rfl,hJ', -⟩|⟨rfl,hx'⟩)
    ·clear hR hy
     gi_wp2
     go_roundw
     case rel=>exact⟨i+1,_,X,by simp,by omega,hJ',.refl _⟩
     case measure=>simp [intOf];omega
    ·skip
     gi_wp2
     refine bodyPost_ret (results_none rfl _ _ _) rfl ?_;exact⟨⟨_,rfl⟩,.inr ⟨_,hx'⟩⟩
   |false=>
    rw [hd] at hdw;have hsl:j3 σ.2 (0,i)=some (0,i+1):=by unfold j3;rw [if_pos rfl,if_pos (by simp only;omega),if_neg (by simp only [hd];simp)]
    replace hdw:=G hdw;replace hd:=G hd
    gi_wp2_with fail
    refine(callsIn_wide.2 hdw.out).mono ?_;rintro e w3⟨rfl,hw3⟩;obtain rfl:=hw3.symm
    gi_wp2
    go_roundw
    case rel=>exact⟨i+1,σ,X,by simp,by omega,hJs,hsil.snoc hsl⟩
    case measure=>simp [intOf];omega
  ·obtain rfl:N=i:=by omega
   have t2:decide ((N:Int)<(N:Int))=false:=by simp
   have hsl:j3 σ.2 (0,N)=some (1,0):=by unfold j3;rw [if_pos rfl,if_neg (by simp only;omega)]
   replace hI:=G hI;replace hG:=G hG
   gi_wp2
   gi_loopw [31] (λp31 wr=>∃(i:Nat)(σ:ZW×zj)(X:Nat->Prop),p31=.int .i64 (i:Nat)/\i<=N/\J σ X wr/\X3 σ.2 σ.1 (1,i)) (λp31 _=>N - (intOf p31).toNat)
   case atStart=>exact⟨0,σ,X,rfl,Nat.zero_le _,hJs,hsil.snoc hsl⟩
   case round=>
    clear eB eq hsil hsl hJs kq hN hI hG hrun hi hiN t2;obtain⟨i,σ,X,rfl,hi,hJs,hsil⟩:=hrel;obtain⟨kq,hN,⟨ow,tv,lw,hI⟩,⟨k,L,hG⟩,hrun⟩:=hRd _ _ _ hJs;have eq:=kq.cell
    by_cases hiN:i<N
    ·have t2:decide ((i:Int)<(N:Int))=true:=by simpa using hiN
     have hwi:IntKind.i64.wrap ((i:Int)+1)=(i:Int)+1:=by rw [N8];omega
     have hdu:=zem hG i (by omega) hI;replace hI:=G hI;replace hG:=G hG
     cases hd:zjj σ.2 i with
     |true=>
      rw [hd] at hdu;have hyl:zi3 σ.2 (1,i):=⟨by unfold j3;rw [if_neg (by simp),if_pos rfl,if_pos (by simp only;omega),if_pos hd],λh=>by have:=h.2;simp only at this;omega⟩;obtain⟨f0,S',hrun⟩:=hrun;obtain⟨g0, -,hrun2⟩:=hrun.next hsil hyl;replace hrun:=G hrun;replace hrun2:=G hrun2;replace hdu:=G hdu;replace hd:=G hd
      gi_wp2_with fail
      refine(callsIn_wide.2 hdu.out).mono ?_;rintro e w3⟨rfl,hb3⟩;have hJ3:J σ X w3:=hJ _ _ _ _ _ hJs (Mod.of_below X hb3) (λk h=>.inl h);obtain⟨fn,tmps,assign,body,hy,hR⟩:=hY σ (1,i) X w3 hJ3 ⟨hsil,hyl⟩;simp only [zj7] at hy hR
      gi_wp2
      refine hR.mono ?_;rintro e W'(⟨rfl,hJ', -⟩|⟨rfl,hx'⟩)
      ·clear hR hy
       have hD0:ZX J s i g0 W':=⟨_,X,S',hJ',.refl _,hrun2.out⟩;clear hrun2 hrun eq hJs hJ3 hsil kq hN hJ'
       gi_wp2
       gi_loopw [] (λwr=>∃f,ZX J s i f wr) (λwr=>least (λf=>ZX J s i f wr))
       case atStart=>exact⟨g0,hD0⟩
       case round=>
        obtain⟨hD,hmin⟩:=ZK hrel;obtain⟨f,hf⟩:∃f,least (λf=>ZX J s i f wr)=f:=⟨_,rfl⟩;rw [hf] at hD;obtain⟨σ,X,S',hJs,hsil,hrun⟩:=hD;clear hrel hmin;obtain⟨kq,hN,⟨ow,tv,lw,hI⟩,⟨k,L,hG⟩, -⟩:=hRd _ _ _ hJs;have eq:=kq.cell;have hfl:=Jh _ hI hG.notesN;replace hfl:=G hfl;replace hI:=G hI;replace hG:=G hG;replace hrun:=G hrun;replace hf:=G hf
        by_cases hn0:σ.2.notes.length=0
        ·have t5:decide (0<(σ.2.notes.length:Int))=false:=decide_eq_false (by omega)
         gi_wp2_with fail
         refine(callsIn_wide.2 hfl.out).mono ?_;rintro e w3⟨rfl,hb3⟩;have hJ3:J σ X w3:=hJ _ _ _ _ _ hJs (Mod.of_below X hb3) (λk h=>.inl h)
         gi_wp2
         go_roundw
         case rel=>exact⟨i+1,σ,X,by simp,by omega,hJ3,hsil.snoc (by unfold j3;rw [if_neg (by simp),if_neg (by simp),if_pos hn0])⟩
         case measure=>simp [intOf];omega
        ·have t5:decide (0<(σ.2.notes.length:Int))=true:=decide_eq_true (by omega)
         have hyl:zi3 σ.2 (2,i):=⟨by unfold j3;rw [if_neg (by simp),if_neg (by simp),if_neg hn0],λh=>by cases h.1⟩;obtain⟨g,hg,hrun2⟩:=hrun.out.next hsil hyl;replace hrun2:=G hrun2
         gi_wp2_with fail
         refine(callsIn_wide.2 hfl.out).mono ?_;rintro e w3⟨rfl,hb3⟩;have hJ3:J σ X w3:=hJ _ _ _ _ _ hJs (Mod.of_below X hb3) (λk h=>.inl h);obtain⟨fn,tmps,assign,body,hy,hR⟩:=hY σ (2,i) X w3 hJ3 ⟨hsil,hyl⟩;simp only [zhO] at hy hR
         gi_wp2
         refine hR.mono ?_;rintro e W'(⟨rfl,hJ', -⟩|⟨rfl,hx'⟩)
         ·clear hR hy
          have hD':ZX J s i g W':=⟨_,X,S',hJ',.refl _,hrun2.out⟩
          gi_wp2
          go_roundw
          case rel=>exact⟨g,hD'⟩
          case measure=>exact Nat.lt_of_le_of_lt ((ZK ⟨g,hD'⟩).2 g hD') (by rw [hf.out];omega)
         ·skip
          gi_wp2
          refine bodyPost_ret (results_none rfl _ _ _) rfl ?_;exact⟨⟨_,rfl⟩,.inr ⟨_,hx'⟩⟩
      ·skip
       gi_wp2
       refine bodyPost_ret (results_none rfl _ _ _) rfl ?_;exact⟨⟨_,rfl⟩,.inr ⟨_,hx'⟩⟩
     |false=>
      rw [hd] at hdu;have hsl:j3 σ.2 (1,i)=some (2,i):=by unfold j3;rw [if_neg (by simp),if_pos rfl,if_pos (by simp only;omega),if_neg (by simp only [hd];simp)]
      obtain⟨f0,S',hrun⟩:=hrun;replace hrun:=G hrun;replace hdu:=G hdu;replace hd:=G hd
      gi_wp2_with fail
      refine(callsIn_wide.2 hdu.out).mono ?_;rintro e w3⟨rfl,hb3⟩;have hJ3:J σ X w3:=hJ _ _ _ _ _ hJs (Mod.of_below X hb3) (λk h=>.inl h);have hD0:ZX J s i f0 w3:=⟨_,X,S',hJ3,hsil.snoc hsl,hrun.out⟩;clear hrun eq hJs hJ3 hsil hsl kq hN
      gi_wp2
      gi_loopw [] (λwr=>∃f,ZX J s i f wr) (λwr=>least (λf=>ZX J s i f wr))
      case atStart=>exact⟨f0,hD0⟩
      case round=>
       obtain⟨hD,hmin⟩:=ZK hrel;obtain⟨f,hf⟩:∃f,least (λf=>ZX J s i f wr)=f:=⟨_,rfl⟩;rw [hf] at hD;obtain⟨σ,X,S',hJs,hsil,hrun⟩:=hD;clear hrel hmin;obtain⟨kq,hN,⟨ow,tv,lw,hI⟩,⟨k,L,hG⟩, -⟩:=hRd _ _ _ hJs;have eq:=kq.cell;have hfl:=Jh _ hI hG.notesN;replace hfl:=G hfl;replace hI:=G hI;replace hG:=G hG;replace hrun:=G hrun;replace hf:=G hf
       by_cases hn0:σ.2.notes.length=0
       ·have t5:decide (0<(σ.2.notes.length:Int))=false:=decide_eq_false (by omega)
        gi_wp2_with fail
        refine(callsIn_wide.2 hfl.out).mono ?_;rintro e w3⟨rfl,hb3⟩;have hJ3:J σ X w3:=hJ _ _ _ _ _ hJs (Mod.of_below X hb3) (λk h=>.inl h)
        gi_wp2
        go_roundw
        case rel=>exact⟨i+1,σ,X,by simp,by omega,hJ3,hsil.snoc (by unfold j3;rw [if_neg (by simp),if_neg (by simp),if_pos hn0])⟩
        case measure=>simp [intOf];omega
       ·have t5:decide (0<(σ.2.notes.length:Int))=true:=decide_eq_true (by omega)
        have hyl:zi3 σ.2 (2,i):=⟨by unfold j3;rw [if_neg (by simp),if_neg (by simp),if_neg hn0],λh=>by cases h.1⟩;obtain⟨g,hg,hrun2⟩:=hrun.out.next hsil hyl;replace hrun2:=G hrun2
        gi_wp2_with fail
        refine(callsIn_wide.2 hfl.out).mono ?_;rintro e w3⟨rfl,hb3⟩;have hJ3:J σ X w3:=hJ _ _ _ _ _ hJs (Mod.of_below X hb3) (λk h=>.inl h);obtain⟨fn,tmps,assign,body,hy,hR⟩:=hY σ (2,i) X w3 hJ3 ⟨hsil,hyl⟩;simp only [zhO] at hy hR
        gi_wp2
        refine hR.mono ?_;rintro e W'(⟨rfl,hJ', -⟩|⟨rfl,hx'⟩)
        ·clear hR hy
         have hD':ZX J s i g W':=⟨_,X,S',hJ',.refl _,hrun2.out⟩
         gi_wp2
         go_roundw
         case rel=>exact⟨g,hD'⟩
         case measure=>exact Nat.lt_of_le_of_lt ((ZK ⟨g,hD'⟩).2 g hD') (by rw [hf.out];omega)
        ·skip
         gi_wp2
         refine bodyPost_ret (results_none rfl _ _ _) rfl ?_;exact⟨⟨_,rfl⟩,.inr ⟨_,hx'⟩⟩
    ·obtain rfl:N=i:=by omega
     have t2:decide ((N:Int)<(N:Int))=false:=by simp
     replace hI:=G hI;replace hG:=G hG
     gi_wp2
     go_end0
     exact⟨⟨_,rfl⟩,.inl ⟨σ,X,⟨_,hsil,rfl,by simp only;omega⟩,hJs⟩⟩
def zkB(Ds:List Nat):List Deferred:=Ds.map λD=> {target:=.collected D,args:=#[] }
def Xy(Ds:List Nat)(W:World):World:=Ds.foldl (λW D=>W.putObj D (.deferred none)) W
def zdp(n0:Nat)(ow:Own)(Ds:List Nat)(W:World):Prop:=Ds.Nodup/\∀D∈Ds,n0<=D/\D<W.heap.size/\ow D=[] /\W.heap[D]?=some (.deferred (some []))
theorem zdp.step {n0:Nat}{t:List Nat}(ht:t≠ []){ow ow':Own}{Ds:List Nat}{W W':World}(h:zdp n0 ow Ds W)(hs:zq t ow W ow' W'):zdp n0 ow' Ds W':=
 ⟨h.1,λD hD=>by
  obtain⟨h1,h2,h3,h4⟩:=h.2 D hD
  exact⟨h1,Nat.lt_of_lt_of_le h2 hs.size,by rw [hs.agree D h2];exact h3,(hs.block h2 (by rw [h3];exact zi ht)).trans h4⟩⟩
theorem zdp.cons {n0:Nat}{ow:Own}{Ds:List Nat}{W:World}(h:zdp n0 ow Ds W){D:Nat}(hD:∀x∈Ds,x<D)(h1:n0<=D)(h2:D<W.heap.size)(h3:ow D=[])(h4:W.heap[D]?=some (.deferred (some []))):zdp n0 ow (D::Ds) W:=
 ⟨List.nodup_cons.2 ⟨λhm=>by have:=hD D hm;omega,h.1⟩,λx hx=>by
  rcases List.mem_cons.1 hx with rfl|hx
  ·exact⟨h1,h2,h3,h4⟩
  ·exact h.2 x hx⟩
theorem Xz {P:Program}{fn:Func}{R:Ending->World->Prop}{tmps:Array Value}{v:Value}{m:Nat} :∀(Ds:List Nat)(W:World),Ds.Nodup->(∀D∈Ds,W.heap[D]?=some (.deferred (some [])))->(results fn tmps).run P (Xy Ds W)=.ok v (Xy Ds W)->R (.returned v) (Xy Ds W)->
 LeavesInM Fence.wide m P fn tmps R (zkB Ds) .returning W
 | [],W,_,_,hr,hR=>⟨v,hr,hR⟩
 |D::Ds,W,hn,hD,hr,hR=>by
  refine⟨by simp,.inl ⟨D,_,rfl,run_takeDeferred (hD D (by simp)),?_⟩⟩;rw [List.nodup_cons] at hn;refine Xz Ds _ hn.2 (λx hx=>?_) hr hR;have hxd:x≠D:=λe=>hn.1 (e ▸ hx)
  rw [U1 hxd];exact hD x (by simp [hx])
theorem YC {t:List Nat}(ht:t≠ []){A:Own->World->Prop}(hA:yH t A){n0:Nat}{ow0 ow:Own}{W0:World}(hn0:n0=W0.heap.size):∀(Ds:List Nat)(W:World),(∀D∈Ds,n0<=D/\ow D=[])->A ow W->zq t ow0 W0 ow W->A ow (Xy Ds W)/\zq t ow0 W0 ow (Xy Ds W)
 | [],W,_,h,hs=>⟨h,hs⟩
 |D::Ds,W,hD,h,hs=>by
  have h1:=hD D (by simp);exact YC ht hA hn0 Ds _ (λx hx=>hD x (by simp [hx])) (hA.put ht h h1.2 _) (hs.putNew D _ (by omega))
structure OnW(t:List Nat)(ow:Own)(W0:World)(A:Own->World->Prop)(ow':Own)(X:Nat->Prop)(W:World):Prop where
 is:A ow' W
 st:zq t ow W0 ow' W
 xs:∀k,X k->W0.heap.size<=k/\k<W.heap.size/\ow' k=[]
theorem OnW.stab {t:List Nat}(ht:t≠ []){ow:Own}{W0:World}{A:Own->World->Prop}(hA:yH t A){ow':Own}{X X':Nat->Prop}{W W':World}(h:OnW t ow W0 A ow' X W)(hm:Mod X W W')(hx:∀k,X' k->X k∨(W.heap.size<=k/\k<W'.heap.size)):OnW t ow W0 A (ow'.cut W) X' W' where
 is:=hA _ _ _ _ h.is hm.size (λk hk hs=>⟨Own.cut_old hk,hm.block k hk (λhX=>by rw [(h.xs k hX).2.2] at hs;exact zi ht hs)⟩)
 st:=⟨h.st.mod.trans hm (λ_ _ e=>e) (λk hk e=>by have:=(h.xs k e).1;omega),λk hk=>(Own.cut_old (by have:=h.st.size;omega)).trans (h.st.agree k hk)⟩
 xs:=λk hk=>by
  have hs:=hm.size
  rcases hx k hk with h1|h1
  ·have h2:=h.xs k h1
   exact⟨h2.1,by omega,by rw [Own.cut_old h2.2.1];exact h2.2.2⟩
  ·exact⟨by have:=h.st.size;omega,by omega,Own.cut_new h1.1⟩
theorem OnW.step {t:List Nat}{ow:Own}{W0:World}{A A':Own->World->Prop}{ow1 ow2:Own}{X:Nat->Prop}{W W':World}(h:OnW t ow W0 A ow1 X W)(hs:zq t ow1 W ow2 W')(hn:A' ow2 W'):OnW t ow W0 A' ow2 X W' where
 is:=hn
 st:=h.st.trans hs
 xs:=λk hk=>by
  have h2:=h.xs k hk;exact⟨h2.1,by have:=hs.size;omega,by rw [hs.agree k h2.2.1];exact h2.2.2⟩
theorem OnW.saves {t:List Nat}(ht:t≠ []){ow:Own}{W0:World}{A:Own->World->Prop}{ow1 ow2:Own}{X:Nat->Prop}{W W':World}(h:OnW t ow W0 A ow1 X W)(hs:zq t ow1 W ow2 W'):ju X W W':=
 ⟨hs.size,λk hX hk=>hs.block hk (by rw [(h.xs k hX).2.2];exact zi ht)⟩
theorem zdq(q:ZW):zhH (zaz q):=by
 unfold zaz
 split
 ·exact⟨by simp,by simp,by simp⟩
 ·split
  ·exact⟨by simp,by simp,by simp⟩
  ·exact⟨by simp,by simp,by simp⟩
theorem zhP(s:StD)(S:zj)(v:Int)(k L:Nat)(hs:s=zp v)(hG:zr v k L S)(hL:L<=3000000000)(q:ZW):zr v (k+1) (L+16) (doW s S (zaz q)).1:=by
 rw [hs];exact hG.does hL _ (zdq q).len (zdq q).mask
theorem yn(S:zj)(i:Nat)(n:zv):(setNode S i n).nodes.length=S.nodes.length:=by unfold setNode;simp
theorem Jk(S:zj)(kind src inst:Int)(b:Nat)(more:List UInt8):(vj S kind src inst b more).nodes.length=S.nodes.length:=by
 unfold vj
 generalize List.range S.nodes.length=js
 induction js generalizing S with
 |nil=>rfl
 |cons j js ih=>rw [List.foldl_cons,ih,(xE _ _).1]
theorem zdr(S:zj)(i:Nat):(yr S i).1.nodes.length=S.nodes.length:=by
 unfold yr
 split
 ·rfl
 split
 ·rfl
 ·rw [Jk];rfl
theorem Vc(S:zj)(i src:Nat)(inst:Int)(b:Nat)(more:List UInt8):(countPromise S i src inst b more).nodes.length=S.nodes.length:=by
 unfold countPromise
 split
 ·rfl
 split
 ·rfl
 simp only
 split
 ·rfl
 split
 ·rfl
 ·rw [Jk]
theorem zaA(S:zj)(i src:Nat)(inst:Int)(b:Nat):(countVote S i src inst b).nodes.length=S.nodes.length:=by
 unfold countVote
 split
 ·rfl
 split
 ·rfl
 simp only
 split
 ·rfl
 ·rw [Jk]
theorem zf8(S:zj)(i:Nat)(f:vx)(inst:Int)(b:Nat)(more:List UInt8):(vX S i f inst b more).nodes.length=S.nodes.length:=by
 unfold vX
 split
 ·rw [(xE _ _).1]
 split
 ·simp only
  split
  ·rw [(xE _ _).1,yn]
  ·rw [yn]
 ·simp only
  split
  ·rw [(xE _ _).1,yn]
  ·rw [yn]
theorem zds(S:zj)(i:Nat)(f:vx):(vK S i f).nodes.length=S.nodes.length:=by
 unfold vK
 split
 ·rfl
 simp only
 split
 ·exact zf8 _ _ _ _ _ _
 split
 ·exact Vc _ _ _ _ _ _
 split
 ·exact zaA _ _ _ _ _
 split
 ·rw [yn];rfl
 ·rfl
theorem zi6(S:zj)(p:Int):(Jc S p).1.nodes.length=S.nodes.length:=by
 unfold Jc
 split
 ·rfl
 split
 ·rfl
 ·simp only
  split
  ·rw [zds]
  ·rfl
theorem zi7(S:zj)(p:Int):(J1 S p).1.nodes.length=S.nodes.length:=by
 unfold J1
 split
 ·rfl
 split<;>rfl
theorem zi8(S:zj)(p:Int):(Yw S p).1.nodes.length=S.nodes.length:=by
 unfold Yw
 split
 ·rfl
 split
 ·rfl
 ·simp only
  split
  ·rfl
  split
  ·show(yu _ _ _).1.nodes.length=_
   rw [(vy _ _ _).1]
  ·rw [(vy _ _ _).1]
theorem zi9(S:zj)(p b:Int)(m:Nat):(Jd S p b m).1.nodes.length=S.nodes.length:=by
 unfold Jd
 split
 ·rfl
 split
 ·rfl
 split
 ·rfl
 split<;>rfl
theorem zeo(S:zj):(ZN S).nodes.length=S.nodes.length:=by
 unfold ZN;rw [xX,xX]
theorem zep(s:StD)(S:zj)(o:OpD):(yK S s o).1.nodes.length=S.nodes.length:=by
 unfold yK;simp only
 split
 ·rw [yn];rfl
 split
 ·exact zdr _ _
 split
 ·exact zi6 _ _
 split
 ·exact zi7 _ _
 split
 ·exact zi8 _ _
 split
 ·exact zi9 _ _ _ _
 split
 ·rw [yn]
 split
 ·rw [yn]
 split
 ·rw [yn];rfl
 split
 ·rw [yn]
 ·rfl
theorem zkC(s:StD)(S:zj)(o:OpD):(doW s S o).1.nodes.length=S.nodes.length:=by
 unfold doW
 split
 ·rfl
 split
 ·rfl
 ·simp only
  split
  ·show(ZN _).nodes.length=_
   rw [zeo,zep]
  ·rw [zeo,zep]
structure zk6(s:StD)(v:Int)(S':zj)(b:Bool)(r g:Nat)(S:zj):Prop where
 runs:Yc s r g S S' b
 good:∃k L,zr v k L S/\L+16*g<=3000000000/\k+g<=100000000
def zkD(s:StD)(v:Int)(S1:zj)(N g:Nat)(σ:ZW×zj):Prop:=∃k L f,zr v k L σ.2/\ZO s f σ.1 σ.2 S1/\L+16*(f+g)<=3000000000/\k+(f+g)<=100000000/\σ.2.nodes.length=N
theorem zkD.next {v:Int}{S1:zj}{N g:Nat}{σ:ZW×zj}(h:zkD (zp v) v S1 N g σ){q:ZW}(hs:X3 σ.2 σ.1 q)(hy:zi3 σ.2 q):zkD (zp v) v S1 N g (zhM q,(doW (zp v) σ.2 (zaz q)).1):=by
 obtain⟨k,L,f,hG,hR,h1,h2,h3⟩:=h;obtain⟨f',rfl,hR'⟩:=hR.next hs hy;exact⟨k+1,L+16,f',zhP _ _ v k L rfl hG (by omega) q,hR',by omega,by omega,by rw [zkC];exact h3⟩
variable {B:Nat}{K:WK}{tv:Value}{lp:Nat->Option Nat}{S:zj}{v:Int}{k0 L:Nat}{t:List Nat}{ow:Own}{a:Addr}{w:World}
def zhQ(u:Nat->Value)(bx r i:Nat)(Ds:List Nat):Act:={tmps:=#[u 0,.int .i64 (r:Nat),.pointer (some ⟨bx,0,none⟩),u 3,u 4,u 5,u 6,u 7,u 8,u 9,u 10,u 11,u 12,u 13,u 14,.int .i64 (r:Nat),.int .i64 (i:Nat),u 17,u 18,u 19,u 20,u 21,u 22,u 23,u 24,u 25,u 26,u 27,u 28],defers:=zkB Ds}
def zk7(B:Nat)(K:WK)(v:Int)(S':zj)(b:Bool)(t:List Nat)(ow:Own)(w:World)(bx r:Nat)(a':Act)(W:World):Prop:=
 ∃(i g:Nat)(S:zj)(ow':Own)(Ds:List Nat),a'=zhQ (λk=>a'.tmps.getD k undef) bx r i Ds/\
  i<=r/\zk6 (zp v) v S' b (r - i) g S/\zq t ow w ow' W/\zy B K S t ow' W/\Blk W bx #[.pointer (some ⟨B,0,none⟩)] 24/\ow' bx=[] /\zdp w.heap.size ow' Ds W
theorem zhR(hG:zr v k0 L S)(hv:known v=true)(ht:t≠ [])(r:Nat)(hr:r<=1000){g:Nat}{S':zj}{b:Bool}(hF:Yc (zp v) r g S S' b)(hL:L+16*g<=3000000000)(hk:k0+g<=100000000)
 (h:zy B K S t ow w) (he:jA w a) (hge:ow 2=[]):Calls prog 12 #[.pointer (some ⟨B,0,none⟩),.int .i64 (r:Nat)] w (vi B K S' t ow w (.tuple #[.bool b,.int .i64 0])):=by
 have hb1:Below w.heap.size w (w.alloc (.cells #[.pointer (some ⟨B,0,none⟩)] 24)):=zg (N2 _ _) _;have hW1:=(zy.loc B K S t).cut h hb1;have kb:Blk (w.alloc (.cells #[.pointer (some ⟨B,0,none⟩)] 24)) w.heap.size #[.pointer (some ⟨B,0,none⟩)] 24:=Blk.new rfl;have hob:(ow.cut w) w.heap.size=[]:=Own.cut_new (N0 _);have hst1:zq t ow w (ow.cut w) (w.alloc (.cells #[.pointer (some ⟨B,0,none⟩)] 24)):=zq.wrap hb1 (zq.refl _ _ _);obtain⟨tv,lp,hI1⟩:=hW1;have hni:=qL _ hI1;have t1:decide ((r:Int)<0)=false:=by simp
 have t2:decide (1000<(r:Int))=false:=by simp;omega
 have hFF:zk6 (zp v) v S' b (r - 0) g S:=⟨hF,k0,L,hG,hL,hk⟩;obtain⟨w1,hw1⟩:∃x,x=w.alloc (.cells #[.pointer (some ⟨B,0,none⟩)] 24):=⟨_,rfl⟩;rw [← hw1] at hb1 hI1 kb hst1 hni;replace hni:=G hni;replace hI1:=G hI1;clear hG hF h;refine zl func12 rfl ?_;simp only [ntmps12,R8,Nat.reduceAdd,Nat.reduceSub];go_wp2_with fail
 rw [← hw1];clear hw1;refine hni.out.mono ?_;rintro e w2⟨rfl,hw2⟩;obtain rfl:=hw2.symm;go_wp2;refine wp_loop (zk7 B K v S' b t ow w w.heap.size r) (λa' _=>r - (intOf (a'.tmps.getD 16 undef)).toNat) ?_ ?_
 ·exact⟨0,g,S,ow.cut w,[],rfl,Nat.zero_le _,hFF,hst1,⟨tv,lp,hI1.out⟩,kb,hob,List.nodup_nil,λD hD=>by cases hD⟩
 ·rintro a' wr⟨i,g1,S1,ow1,Ds,ha,hi,hfar,hst,⟨tv1,lp1,hI⟩,kx,hox,hmk⟩
  obtain⟨u,hu⟩:∃u,a'=zhQ u w.heap.size r i Ds:=⟨_,ha⟩;clear ha hFF hst1 hI1 kb hob hni;subst hu;unfold zhQ;obtain⟨hrn,k1,L1,hG1,hL1,hk1⟩:=hfar;have hrs:=zf4 hG1 hI;have cx:=kx.cell
  by_cases hir:i<r
  ·have t3:decide ((i:Int)<(r:Int))=true:=by simpa using hir
   have hwi:IntKind.i64.wrap ((i:Int)+1)=(i:Int)+1:=by rw [N8];omega
   obtain⟨r',hr'⟩:∃r',r - i=r'+1:=⟨r - i - 1,by omega⟩;rw [hr'] at hrn
   cases hb:qS S1 with
   |true=>
    rw [hb] at hrs
    obtain⟨rfl,rfl⟩:S1=S'/\b=true:=by
     cases hrn with
     |rests _=>exact⟨rfl,rfl⟩
     |round h1 _ _=>rw [hb] at h1;cases h1
    replace hrs:=G hrs;replace hI:=G hI;go_wp2_with fail
    refine hrs.out.mono ?_;rintro e w3⟨rfl,hb3⟩;have hmk3:=hmk.step ht (zq.of_below t ow1 hb3);go_wp2;refine Xz Ds w3 hmk3.1 (λD hD=>(hmk3.2 D hD).2.2.2) (v:=.tuple #[.bool true,.int .i64 0]) (by simp [results,Tryz.results12,go_sem]) ?_;have hW3:zy B K S1 t ow1 w3:=⟨_,_,(zk.loc B K tv1 lp1 S1 t).below hI.out hb3⟩;obtain⟨q1,q2⟩:=YC ht (zy.loc B K S1 t) rfl Ds w3 (λD hD=>⟨(hmk3.2 D hD).1,(hmk3.2 D hD).2.2.1⟩) hW3 (hst.trans (zq.of_below t ow1 hb3));exact⟨rfl,ow1,q2,q1⟩
   |false=>
    rw [hb] at hrs;replace hrs:=G hrs;replace hI:=G hI;go_wp2_with fail
    refine hrs.out.mono ?_;rintro e w3⟨rfl,hb3⟩;have cx3:=(kx.call hb3).cell;go_wp2_with fail
    refine(zf6 B _).mono ?_;rintro e w4⟨rfl,hw4⟩
    obtain⟨f2,g2,S2,hgf,hrun,hrn2⟩:∃f2 g2 S2,g1=f2+g2/\ZO (zp v) f2 (0,0) S1 S2/\Yc (zp v) r' g2 S2 S' b:=by
     cases hrn with
     |rests h1=>rw [hb] at h1;cases h1
     |round _ h1 h2=>exact⟨_,_,_,rfl,h1,h2⟩
    subst hgf;have hb4:Below wr.heap.size wr w4:=by rw [hw4];exact zg hb3 _
    have kq4:Blk w4 w3.heap.size #[.pointer (some ⟨B,0,none⟩)] 24:=by rw [hw4];exact Blk.new rfl
    have hz3:=hb3.size;have hz4:w3.heap.size<w4.heap.size:=kq4.lt;have hI4:=(zk.loc B K tv1 lp1 S1 t).cut hI.out hb4;have hst14:zq t ow1 wr (ow1.cut wr) w4:=zq.wrap hb4 (zq.refl _ _ _);have hst4:=hst.trans hst14;have hmk4:=hmk.step ht hst14;have hoq4:(ow1.cut wr) w3.heap.size=[]:=Own.cut_new hz3;have hox4:(ow1.cut wr) w.heap.size=[]:=(Own.cut_old kx.lt).trans hox;have kx4:=kx.call hb4;have hn16:=hG1.n0;have hel:=he.lt;have he4:=he.step ht hst4 hge;have hge4:(ow1.cut wr) 2=[]:=by rw [hst4.agree _ hel];exact hge
    have hF4:zkD (zp v) v S2 S1.nodes.length g2 ((0,0),S1):=⟨k1,L1,f2,hG1,hrun,hL1,hk1,rfl⟩;obtain⟨ow4,ho4⟩:∃o,ow1.cut wr=o:=⟨_,rfl⟩;rw [ho4] at hI4 hst14 hst4 hmk4 hoq4 hox4 hge4;obtain⟨N,hN⟩:∃N,S1.nodes.length=N:=⟨_,rfl⟩;rw [hN] at hF4 hn16;obtain⟨qb,hqb⟩:∃q,w3.heap.size=q:=⟨_,rfl⟩;rw [hqb] at kq4 hoq4 hz4⊢;have hkeep:∀ow' W,zq t ow4 w4 ow' W->∀k,k<w4.heap.size->ow4 k=[] ->W.heap[k]?=w4.heap[k]?:=λow' W hs k h1 h2=>hs.block h1 (by rw [h2];exact zi ht)
    clear hw4 hrs ho4 hqb hrun hrn cx cx3 hst14;go_wp2_with fail
    refine yR (gf:=45) (lb:=#[.pointer (some ⟨qb,0,none⟩)]) rfl (enters_of func45 (by kernel_rfl) rfl)
     (zf7 (zp v) v qb B K N hn16.2 t S1) (λ_=>rfl)
     (λσ X W=>∃ow',OnW t ow4 w4 (zy B K σ.2 t) ow' X W/\zkD (zp v) v S2 N g2 σ)
     (λ_ _ _=>False)
     (λσ X X' W W' h hm hx=>by obtain⟨ow',h1,h2⟩:=h;exact⟨_,h1.stab ht (zy.loc B K σ.2 t) hm hx,h2⟩)
     (λ_ _ X X' W W' h hm hx=>h)
     (λσ X W h=>by
      obtain⟨ow',h1,k',L',f',h2,h3,h4,h5,h6⟩:=h
      exact⟨kq4.kept (hkeep _ _ h1.st _ hz4 hoq4),h6,⟨_,h1.is⟩,⟨_,_,h2⟩,_,_,h3⟩)
     (λσ X W h=>by obtain⟨ow',h1,h2⟩:=h;exact⟨h1.st.size,λk hk=>(h1.xs k hk).2.1⟩)
     ⟨ow4,⟨⟨_,_,hI4⟩,zq.refl _ _ _,λk h=>h.elim⟩,hF4⟩
     6 39 (λq=> #[.int .i64 (zaz q).kind,.int .i64 (zaz q).node,.int .i64 (zaz q).a,.int .i64 (zaz q).b,.int .u32 ((zaz q).mask:Nat),.string (bs (zaz q).s)]) ?assign ?body ?done ?stop
    case assign=>
     intro l' x W J hJ;rw [zR] at hJ⊢;unfold opV at hJ⊢
     gi_wp2
     exact hJ
    case stop=>rintro D c X W hD hXD h;exact h.elim
    case body=>
     rintro l' σ q cb X X1 W1 W hI1⟨ow',hOn,hfr⟩⟨hsl,hyl⟩ hcb hcw hXc kc hXl _;have hnext:=hfr.next hsl hyl;obtain⟨k',L',f',h2,h3,h4,h5,h6⟩:=hfr;have kxW:=kx4.kept (hkeep _ _ hOn.st _ kx4.lt hox4);have hdo:=zdn h2 (by omega) (by omega) hv ht (zaz q) (zdq q) hOn.is (he4.step ht hOn.st hge4) (by rw [hOn.st.agree _ (by have:=hst4.size;omega)];exact hge4);unfold opV at hdo;rw [zR];unfold opV;have cxW:=kxW.cell;have ccW:=kc.cell;replace hdo:=G hdo;replace hnext:=G hnext
     gi_wp2_with fail
     refine(inRound _ _ hdo.out).mono ?_;rintro e w5⟨rfl,ow5,hs5,hW5⟩
     gi_wp2
     exact⟨⟨ow5,hOn.step hs5 hW5,hnext.out⟩,hOn.saves ht hs5⟩
    case done=>
     rintro D σ X W hD hXD⟨q,hsq,heq⟩⟨ow',hOn,k',L',f',h2,h3,h4,h5,h6⟩ hdef;obtain⟨rfl,hS2⟩:=h3.fin hsq heq;have hstW:=hst4.trans hOn.st;have hmkW:=(hmk4.step ht hOn.st).cons (D:=D) (λx hx=>by have:=(hmk4.2 x hx).2.1;omega) (by have:=hst4.size;omega) (hOn.xs D hXD).2.1 (hOn.xs D hXD).2.2 hdef;have kxW:=kx4.kept (hkeep _ _ hOn.st _ kx4.lt hox4);have hoxW:ow' w.heap.size=[]:=(hOn.st.agree _ kx4.lt).trans hox4;have hfarW:zk6 (zp v) v S' b (r - (i+1)) g2 σ.2:=⟨by rw [← hS2,show r - (i+1)=r' by omega];exact hrn2,k',L',h2,by omega,by omega⟩;have hisW:=hOn.is;go_wp2;refine⟨⟨i+1,g2,σ.2,ow',D::Ds,?_,by omega,hfarW,hstW,hisW,kxW,hoxW,hmkW⟩,by simp [intOf];omega⟩;rw [show(i:Int)+1=((i+1:Nat):Int)by simp];rfl
  ·obtain rfl:r=i:=by omega
   have t3:decide ((r:Int)<(r:Int))=false:=by simp
   replace hrs:=G hrs;replace hI:=G hI;go_wp2_with fail
   refine hrs.out.mono ?_;rintro e w3⟨rfl,hb3⟩;have hmk3:=hmk.step ht (zq.of_below t ow1 hb3);rw [Nat.sub_self] at hrn;obtain⟨rfl,rfl⟩:S1=S'/\b=qS S1:=by cases hrn;exact⟨rfl,rfl⟩
   go_wp2;refine Xz Ds w3 hmk3.1 (λD hD=>(hmk3.2 D hD).2.2.2) (v:=.tuple #[.bool (qS S1),.int .i64 0]) (by simp [results,Tryz.results12,go_sem]) ?_;have hW3:zy B K S1 t ow1 w3:=⟨_,_,(zk.loc B K tv1 lp1 S1 t).below hI.out hb3⟩;obtain⟨q1,q2⟩:=YC ht (zy.loc B K S1 t) rfl Ds w3 (λD hD=>⟨(hmk3.2 D hD).1,(hmk3.2 D hD).2.2.1⟩) hW3 (hst.trans (zq.of_below t ow1 hb3));exact⟨rfl,ow1,q2,q1⟩
end
open Go Go.RowKit Go.Shelf Go.Extern.Stop Go.Stop Go.Extern
attribute [local go_sem] Oper.semAt_some zw zn
theorem nB1:zp 1=(1,0,[]):=by kernel_rfl
structure zeq(t:List Nat)(w:World)(B:Nat)(K:WK)(S:zj)(ow:Own)(W:World):Prop where
 st:zq t (λ_=>[]) w ow W
 is:zy B K S t ow W
variable {t:List Nat}{w W W':World}{B:Nat}{K:WK}{S:zj}{ow:Own}{a:Addr}{v:Int}{k L:Nat}
theorem zeq.bel(ht:t≠ [])(h:zeq t w B K S ow W):Below w.heap.size w W:=h.st.below (N0 _) (λ_ _=>zi ht)
theorem zeq.below(h:zeq t w B K S ow W)(hb:Below W.heap.size W W'):zeq t w B K S (ow.cut W) W':=
 ⟨h.st.trans (zq.wrap hb (zq.refl _ _ _)),(zy.loc B K S t).cut h.is hb⟩
theorem zeq.err(ht:t≠ [])(h:zeq t w B K S ow W)(he:jA w a):jA W a/\ow 2=[]:=⟨he.step ht h.st rfl,h.st.agree _ he.lt⟩
def zja(t:List Nat)(w:World)(B:Nat)(K:WK)(S:zj)(v:Value)(e:Ending)(w':World):Prop:=e=.returned v/\∃ow,zeq t w B K S ow w'
theorem zeq.fair(ht:t≠ [])(h:zeq t w B K S ow W)(he:jA w a)(hG:zr v k L S)(hv:known v=true)(r:Nat)(hr:r<=1000){g:Nat}{S':zj}{b:Bool}(hF:Yc (zp v) r g S S' b)(hL:L+16*g<=3000000000)(hk:k+g<=100000000):
 Calls prog 12 #[.pointer (some ⟨B,0,none⟩),.int .i64 (r:Nat)] W (zja t w B K S' (.tuple #[.bool b,.int .i64 0])):=by
 have h1:=h.err ht he;refine(zhR hG hv ht r hr hF hL hk h.is h1.1 h1.2).mono ?_;rintro e w'⟨rfl,ow',hs,hW⟩;exact⟨rfl,ow',h.st.trans hs,hW⟩
theorem ZO.good {s:StD}{f:Nat}{p:ZW}{S S':zj}(h:ZO s f p S S'):∀ {k L:Nat},s=zp v->zr v k L S->L+16*f<=3000000000->zr v (k+f) (L+16*f) S':=by
 induction h with
 |done _ _=>intro k L _ hG _;exact hG
 |step h1 h2 h3 ih=>
  rename_i p q S S' f
  intro k L hs hG hL;have:=ih hs (zhP _ _ v k L hs hG (by omega) q) (by omega)
  rwa [show k+1+f=k+(f+1)by omega,show L+16+16*f=L+16*(f+1)by omega] at this
theorem Yc.good {s:StD}{r g:Nat}{S S':zj}{b:Bool}(h:Yc s r g S S' b):∀ {k L:Nat},s=zp v->zr v k L S->L+16*g<=3000000000->zr v (k+g) (L+16*g) S':=by
 induction h with
 |none=>intro k L _ hG _;exact hG
 |rests _=>intro k L _ hG _;exact hG
 |round h1 h2 h3 ih=>
  rename_i r f g S S1 S' b
  intro k L hs hG hL;have:=ih hs (h2.good hs hG (by omega)) (by omega)
  rwa [show k+f+g=k+(f+g)by omega,show L+16*f+16*g=L+16*(f+g)by omega] at this
