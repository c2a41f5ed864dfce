/- PARTS OF THE PROOF. -/
import Derived.Test.YtofppfoioodblaaGreatDoorDA32
set_option maxRecDepth 8000
set_option maxHeartbeats 4000000
open Go.Proofs.Tryz
namespace Go.Proofs.YtofppfoioodblaaGreatDoor
section
open Go Go.RowKit Go.Shelf Go.Extern.Stop Go.Stop Go.Extern
attribute [local go_sem] Oper.semAt_some zB zo
theorem zhh(B:Nat)(w:World):Calls prog 28 #[.pointer (some ⟨B,0,none⟩)] w λe w'=>
 e=.returned (.func (.func 68) #[] #[.pointer (some ⟨w.heap.size,0,none⟩)])/\w'=w.alloc (.cells #[.pointer (some ⟨B,0,none⟩)] 24):=by
 go_enter func28,ntmps28
 go_wp2;go_ret
 exact⟨rfl,rfl⟩
theorem zlU(i:Nat):opV (VQ (0,i))=.agg #[.int .i64 9,.int .i64 (i:Nat),.int .i64 0,.int .i64 0,.int .u32 0,.string ⟨#[]⟩]:=rfl
theorem zlV(i:Nat):opV (VQ (1,i))=.agg #[.int .i64 2,.int .i64 (i:Nat),.int .i64 0,.int .i64 0,.int .u32 0,.string ⟨#[]⟩]:=rfl
theorem zjm(i:Nat):opV (VQ (2,i))=.agg #[.int .i64 3,.int .i64 0,.int .i64 0,.int .i64 0,.int .u32 0,.string ⟨#[]⟩]:=rfl
def JJ(J:(ZK×zf)->(Nat->Prop)->World->Prop)(s:StD)(i f:Nat)(wr:World):Prop:=∃σ X S',J σ X wr/\Vo σ.2 σ.1 (2,i)/\vY s f σ.1 σ.2 S'
def zlW(s:StD)(v:Int)(qb B:Nat)(K:WK)(N:Nat)(t:List Nat)(σ:ZK×zf)(W:World):Prop:=
 Blk W qb #[.pointer (some ⟨B,0,none⟩)] 24/\σ.2.nodes.length=N/\(∃ow,zK B K σ.2 t ow W)/\(∃k L,zr v k L σ.2)/\∃f S',vY s f σ.1 σ.2 S'
theorem zhi(s:StD)(v:Int)(qb B:Nat)(K:WK)(N:Nat)(hN16:N<=16)(t:List Nat)(S0:zf):
 zaF Fence.wide 2 prog 68 #[.pointer (some ⟨qb,0,none⟩)] (λq:ZK=> #[opV (VQ q)])
  (λ(σ:ZK×zf) q=>Vo σ.2 σ.1 q/\ziT σ.2 q) (λσ q=>(ziS q,(doW s σ.2 (VQ q)).1)) (λσ=>∃q,Vo σ.2 σ.1 q/\zk6 σ.2 q)
  (zlW s v qb B K N t) ((0,0),S0):=by
 intro lp J Jx W hJ hJx hRd hY h0;obtain⟨ax,ay,⟨a4,a1,a3,aw⟩, -, -⟩:=hRd _ _ _ h0;have e0:=ax.cell;have eB:=aw.blk.cell;simp only at ay;rw [ay] at eB;have hF:Fence.wide.fn 68:=trivial;have a0:Fence.wide.round=none:=rfl;replace aw:=hid aw;replace hY:∀σ q X W,J σ X W->Vo σ.2 σ.1 q/\ziT σ.2 q->_:=hY;refine callsIn_of_wp func68 rfl hF ?_ a0;simp only [ntmps68,R8,Nat.reduceAdd,Nat.reduceSub]
 gi_wp2
 gi_loopw [11] (λp11 wr=>∃(i:Nat)(σ:ZK×zf)(X:Nat->Prop),p11=.int .i64 (i:Nat)/\i<=N/\J σ X wr/\Vo σ.2 σ.1 (0,i)) (λp11 _=>N - (intOf p11).toNat)
 case atStart=>exact⟨0,_,_,rfl,Nat.zero_le _,h0,.refl _⟩
 case round=>
  obtain⟨i,σ,X,rfl,hi,ad,ab⟩:=hrel;clear e0 eB h0 ax;obtain⟨kq,hN,⟨ow,tv,lw,hI⟩,⟨k,L,hG⟩,aa⟩:=hRd _ _ _ ad;have eq:=kq.cell;have eB:=hI.blk.cell;rw [hN] at eB
  by_cases hiN:i<N
  ·have t2:decide ((i:Int)<(N:Int))=true:=by simpa using hiN
   have y0:(0:Int)<=(i:Int):=by omega
   have y1:(i:Int)<(N:Int):=by omega
   have az:IntKind.i64.wrap ((i:Int)+1)=(i:Int)+1:=by rw [N8];omega
   obtain⟨b,ap,px,sb,lb,pb,av,ar⟩:=hI.node (by omega) (hG.node (i:=i) (by omega)).1;have a2:=hI.nodeCell ap;have ak:=Zx (px:=px) (sb:=sb) (lb:=lb) (pb:=pb) (av:=av) (n:=zn σ.2 i) (B:=b) _ ar.blk;replace hI:=hid hI;replace hG:=hid hG;replace ar:=hid ar;replace ap:=hid ap
   cases hd:(zn σ.2 i).down with
   |true=>
    rw [hd] at ak;have ag:ziT σ.2 (0,i):=⟨by unfold jy;rw [if_pos rfl,if_pos (by simp only;omega),if_pos hd],λh=>by cases h.1⟩;obtain⟨fn,tmps,assign,body,hy,hR⟩:=hY σ (0,i) X wr ad ⟨ab,ag⟩;simp only [zlU] at hy hR;replace ak:=hid ak;replace hd:=hid hd
    gi_wp2_with fail
    refine(callsIn_wide.2 ak.out).mono ?_;rintro e w3⟨rfl,aq⟩;obtain rfl:=aq.symm
    gi_wp2
    refine hR.mono ?_;rintro e W'(⟨rfl,ai, -⟩|⟨rfl,al⟩)
    ·clear hR hy
     gi_wp2
     go_roundw
     case rel=>exact⟨i+1,_,X,by simp,by omega,ai,.refl _⟩
     case measure=>simp [intOf];omega
    skip
    gi_wp2
    refine bodyPost_ret (results_none rfl _ _ _) rfl ?_;exact⟨⟨_,rfl⟩,.inr ⟨_,al⟩⟩
   |false=>
    rw [hd] at ak;have am:jy σ.2 (0,i)=some (0,i+1):=by unfold jy;rw [if_pos rfl,if_pos (by simp only;omega),if_neg (by simp only [hd];simp)]
    replace ak:=hid ak;replace hd:=hid hd
    gi_wp2_with fail
    refine(callsIn_wide.2 ak.out).mono ?_;rintro e w3⟨rfl,aq⟩;obtain rfl:=aq.symm
    gi_wp2
    go_roundw
    case rel=>exact⟨i+1,σ,X,by simp,by omega,ad,ab.snoc am⟩
    case measure=>simp [intOf];omega
  obtain rfl:N=i:=by omega
  have t2:decide ((N:Int)<(N:Int))=false:=by simp
  have am:jy σ.2 (0,N)=some (1,0):=by unfold jy;rw [if_pos rfl,if_neg (by simp only;omega)]
  replace hI:=hid hI;replace hG:=hid hG
  gi_wp2
  gi_loopw [31] (λp31 wr=>∃(i:Nat)(σ:ZK×zf)(X:Nat->Prop),p31=.int .i64 (i:Nat)/\i<=N/\J σ X wr/\Vo σ.2 σ.1 (1,i)) (λp31 _=>N - (intOf p31).toNat)
  case atStart=>exact⟨0,σ,X,rfl,Nat.zero_le _,ad,ab.snoc am⟩
  case round=>
   clear eB eq ab am ad kq hN hI hG aa hi hiN t2;obtain⟨i,σ,X,rfl,hi,ad,ab⟩:=hrel;obtain⟨kq,hN,⟨ow,tv,lw,hI⟩,⟨k,L,hG⟩,aa⟩:=hRd _ _ _ ad;have eq:=kq.cell
   by_cases hiN:i<N
   ·have t2:decide ((i:Int)<(N:Int))=true:=by simpa using hiN
    have az:IntKind.i64.wrap ((i:Int)+1)=(i:Int)+1:=by rw [N8];omega
    have aj:=zfw hG i (by omega) hI;replace hI:=hid hI;replace hG:=hid hG
    cases hd:zfc σ.2 i with
    |true=>
     rw [hd] at aj;have ag:ziT σ.2 (1,i):=⟨by unfold jy;rw [if_neg (by simp),if_pos rfl,if_pos (by simp only;omega),if_pos hd],λh=>by have:=h.2;simp only at this;omega⟩;obtain⟨f0,S',aa⟩:=aa;obtain⟨g0, -,ac⟩:=aa.next ab ag;replace aa:=hid aa;replace ac:=hid ac;replace aj:=hid aj;replace hd:=hid hd
     gi_wp2_with fail
     refine(callsIn_wide.2 aj.out).mono ?_;rintro e w3⟨rfl,af⟩;have ae:J σ X w3:=hJ _ _ _ _ _ ad (Mod.of_below X af) (λk h=>.inl h);obtain⟨fn,tmps,assign,body,hy,hR⟩:=hY σ (1,i) X w3 ae ⟨ab,ag⟩;simp only [zlV] at hy hR
     gi_wp2
     refine hR.mono ?_;rintro e W'(⟨rfl,ai, -⟩|⟨rfl,al⟩)
     ·clear hR hy
      have au:JJ J s i g0 W':=⟨_,X,S',ai,.refl _,ac.out⟩;clear ac aa eq ad ae ab kq hN ai
      gi_wp2
      gi_loopw [] (λwr=>∃f,JJ J s i f wr) (λwr=>least (λf=>JJ J s i f wr))
      case atStart=>exact⟨g0,au⟩
      case round=>
       obtain⟨hD,an⟩:=Jp hrel;obtain⟨f,hf⟩:∃f,least (λf=>JJ J s i f wr)=f:=⟨_,rfl⟩;rw [hf] at hD;obtain⟨σ,X,S',ad,ab,aa⟩:=hD;clear hrel an;obtain⟨kq,hN,⟨ow,tv,lw,hI⟩,⟨k,L,hG⟩, -⟩:=hRd _ _ _ ad;have eq:=kq.cell;have ah:=Zw _ hI hG.notesN;replace ah:=hid ah;replace hI:=hid hI;replace hG:=hid hG;replace aa:=hid aa;replace hf:=hid hf
       by_cases hn0:σ.2.notes.length=0
       ·have t5:decide (0<(σ.2.notes.length:Int))=false:=decide_eq_false (by omega)
        gi_wp2_with fail
        refine(callsIn_wide.2 ah.out).mono ?_;rintro e w3⟨rfl,af⟩;have ae:J σ X w3:=hJ _ _ _ _ _ ad (Mod.of_below X af) (λk h=>.inl h)
        gi_wp2
        go_roundw
        case rel=>exact⟨i+1,σ,X,by simp,by omega,ae,ab.snoc (by unfold jy;rw [if_neg (by simp),if_neg (by simp),if_pos hn0])⟩
        case measure=>simp [intOf];omega
       have t5:decide (0<(σ.2.notes.length:Int))=true:=decide_eq_true (by omega)
       have ag:ziT σ.2 (2,i):=⟨by unfold jy;rw [if_neg (by simp),if_neg (by simp),if_neg hn0],λh=>by cases h.1⟩;obtain⟨g,hg,ac⟩:=aa.out.next ab ag;replace ac:=hid ac
       gi_wp2_with fail
       refine(callsIn_wide.2 ah.out).mono ?_;rintro e w3⟨rfl,af⟩;have ae:J σ X w3:=hJ _ _ _ _ _ ad (Mod.of_below X af) (λk h=>.inl h);obtain⟨fn,tmps,assign,body,hy,hR⟩:=hY σ (2,i) X w3 ae ⟨ab,ag⟩;simp only [zjm] at hy hR
       gi_wp2
       refine hR.mono ?_;rintro e W'(⟨rfl,ai, -⟩|⟨rfl,al⟩)
       ·clear hR hy
        have ao:JJ J s i g W':=⟨_,X,S',ai,.refl _,ac.out⟩
        gi_wp2
        go_roundw
        case rel=>exact⟨g,ao⟩
        case measure=>exact Nat.lt_of_le_of_lt ((Jp ⟨g,ao⟩).2 g ao) (by rw [hf.out];omega)
       skip
       gi_wp2
       refine bodyPost_ret (results_none rfl _ _ _) rfl ?_;exact⟨⟨_,rfl⟩,.inr ⟨_,al⟩⟩
     skip
     gi_wp2
     refine bodyPost_ret (results_none rfl _ _ _) rfl ?_;exact⟨⟨_,rfl⟩,.inr ⟨_,al⟩⟩
    |false=>
     rw [hd] at aj;have am:jy σ.2 (1,i)=some (2,i):=by unfold jy;rw [if_neg (by simp),if_pos rfl,if_pos (by simp only;omega),if_neg (by simp only [hd];simp)]
     obtain⟨f0,S',aa⟩:=aa;replace aa:=hid aa;replace aj:=hid aj;replace hd:=hid hd
     gi_wp2_with fail
     refine(callsIn_wide.2 aj.out).mono ?_;rintro e w3⟨rfl,af⟩;have ae:J σ X w3:=hJ _ _ _ _ _ ad (Mod.of_below X af) (λk h=>.inl h);have au:JJ J s i f0 w3:=⟨_,X,S',ae,ab.snoc am,aa.out⟩;clear aa eq ad ae ab am kq hN
     gi_wp2
     gi_loopw [] (λwr=>∃f,JJ J s i f wr) (λwr=>least (λf=>JJ J s i f wr))
     case atStart=>exact⟨f0,au⟩
     case round=>
      obtain⟨hD,an⟩:=Jp hrel;obtain⟨f,hf⟩:∃f,least (λf=>JJ J s i f wr)=f:=⟨_,rfl⟩;rw [hf] at hD;obtain⟨σ,X,S',ad,ab,aa⟩:=hD;clear hrel an;obtain⟨kq,hN,⟨ow,tv,lw,hI⟩,⟨k,L,hG⟩, -⟩:=hRd _ _ _ ad;have eq:=kq.cell;have ah:=Zw _ hI hG.notesN;replace ah:=hid ah;replace hI:=hid hI;replace hG:=hid hG;replace aa:=hid aa;replace hf:=hid hf
      by_cases hn0:σ.2.notes.length=0
      ·have t5:decide (0<(σ.2.notes.length:Int))=false:=decide_eq_false (by omega)
       gi_wp2_with fail
       refine(callsIn_wide.2 ah.out).mono ?_;rintro e w3⟨rfl,af⟩;have ae:J σ X w3:=hJ _ _ _ _ _ ad (Mod.of_below X af) (λk h=>.inl h)
       gi_wp2
       go_roundw
       case rel=>exact⟨i+1,σ,X,by simp,by omega,ae,ab.snoc (by unfold jy;rw [if_neg (by simp),if_neg (by simp),if_pos hn0])⟩
       case measure=>simp [intOf];omega
      have t5:decide (0<(σ.2.notes.length:Int))=true:=decide_eq_true (by omega)
      have ag:ziT σ.2 (2,i):=⟨by unfold jy;rw [if_neg (by simp),if_neg (by simp),if_neg hn0],λh=>by cases h.1⟩;obtain⟨g,hg,ac⟩:=aa.out.next ab ag;replace ac:=hid ac
      gi_wp2_with fail
      refine(callsIn_wide.2 ah.out).mono ?_;rintro e w3⟨rfl,af⟩;have ae:J σ X w3:=hJ _ _ _ _ _ ad (Mod.of_below X af) (λk h=>.inl h);obtain⟨fn,tmps,assign,body,hy,hR⟩:=hY σ (2,i) X w3 ae ⟨ab,ag⟩;simp only [zjm] at hy hR
      gi_wp2
      refine hR.mono ?_;rintro e W'(⟨rfl,ai, -⟩|⟨rfl,al⟩)
      ·clear hR hy
       have ao:JJ J s i g W':=⟨_,X,S',ai,.refl _,ac.out⟩
       gi_wp2
       go_roundw
       case rel=>exact⟨g,ao⟩
       case measure=>exact Nat.lt_of_le_of_lt ((Jp ⟨g,ao⟩).2 g ao) (by rw [hf.out];omega)
      skip
      gi_wp2
      refine bodyPost_ret (results_none rfl _ _ _) rfl ?_;exact⟨⟨_,rfl⟩,.inr ⟨_,al⟩⟩
   obtain rfl:N=i:=by omega
   have t2:decide ((N:Int)<(N:Int))=false:=by simp
   replace hI:=hid hI;replace hG:=hid hG
   gi_wp2
   go_end0
   exact⟨⟨_,rfl⟩,.inl ⟨σ,X,⟨_,ab,rfl,by simp only;omega⟩,ad⟩⟩
def zmz(Ds:List Nat):List Deferred:=Ds.map λD=> {target:=.collected D,args:=#[] }
def Qq(Ds:List Nat)(W:World):World:=Ds.foldl (λW D=>W.putObj D (.deferred none)) W
def zeL(n0:Nat)(ow:Own)(Ds:List Nat)(W:World):Prop:=Ds.Nodup/\∀D∈Ds,n0<=D/\D<W.heap.size/\ow D=[] /\W.heap[D]?=some (.deferred (some []))
theorem zeL.step {n0:Nat}{t:List Nat}(ht:t≠ []){ow ow':Own}{Ds:List Nat}{W W':World}(h:zeL n0 ow Ds W)(hs:zp t ow W ow' W'):zeL n0 ow' Ds W':=
 ⟨h.1,λD hD=>by
  obtain⟨h1,h2,h3,h4⟩:=h.2 D hD
  exact⟨h1,Nat.lt_of_lt_of_le h2 hs.size,by rw [hs.agree D h2];exact h3,(hs.block h2 (by rw [h3];exact zj ht)).trans h4⟩⟩
theorem zeL.cons {n0:Nat}{ow:Own}{Ds:List Nat}{W:World}(h:zeL n0 ow Ds W){D:Nat}(hD:∀x∈Ds,x<D)(h1:n0<=D)(h2:D<W.heap.size)(h3:ow D=[])(h4:W.heap[D]?=some (.deferred (some []))):zeL n0 ow (D::Ds) W:=
 ⟨List.nodup_cons.2 ⟨λhm=>by have:=hD D hm;omega,h.1⟩,λx hx=>by
  rcases List.mem_cons.1 hx with rfl|hx
  ·exact⟨h1,h2,h3,h4⟩
  exact h.2 x hx⟩
theorem Qr {P:Program}{fn:Func}{R:Ending->World->Prop}{tmps:Array Value}{v:Value}{m:Nat} :∀(Ds:List Nat)(W:World),Ds.Nodup->(∀D∈Ds,W.heap[D]?=some (.deferred (some [])))->(results fn tmps).run P (Qq Ds W)=.ok v (Qq Ds W)->R (.returned v) (Qq Ds W)->
 LeavesInM Fence.wide m P fn tmps R (zmz Ds) .returning W
 | [],W,_,_,hr,hR=>⟨v,hr,hR⟩
 |D::Ds,W,hn,hD,hr,hR=>by
  refine⟨by simp,.inl ⟨D,_,rfl,run_takeDeferred (hD D (by simp)),?_⟩⟩;rw [List.nodup_cons] at hn;refine Qr Ds _ hn.2 (λx hx=>?_) hr hR;have hxd:x≠D:=λe=>hn.1 (e ▸ hx)
  rw [U1 hxd];exact hD x (by simp [hx])
theorem Vs {t:List Nat}(ht:t≠ []){A:Own->World->Prop}(hA:yC t A){n0:Nat}{ow0 ow:Own}{W0:World}(hn0:n0=W0.heap.size):∀(Ds:List Nat)(W:World),(∀D∈Ds,n0<=D/\ow D=[])->A ow W->zp t ow0 W0 ow W->A ow (Qq Ds W)/\zp t ow0 W0 ow (Qq Ds W)
 | [],W,_,h,hs=>⟨h,hs⟩
 |D::Ds,W,hD,h,hs=>by
  have h1:=hD D (by simp);exact Vs ht hA hn0 Ds _ (λx hx=>hD x (by simp [hx])) (hA.put ht h h1.2 _) (hs.putNew D _ (by omega))
structure OnW(t:List Nat)(ow:Own)(W0:World)(A:Own->World->Prop)(ow':Own)(X:Nat->Prop)(W:World):Prop where
 is:A ow' W
 st:zp t ow W0 ow' W
 xs:∀k,X k->W0.heap.size<=k/\k<W.heap.size/\ow' k=[]
theorem OnW.stab {t:List Nat}(ht:t≠ []){ow:Own}{W0:World}{A:Own->World->Prop}(hA:yC t A){ow':Own}{X X':Nat->Prop}{W W':World}(h:OnW t ow W0 A ow' X W)(hm:Mod X W W')(hx:∀k,X' k->X k∨(W.heap.size<=k/\k<W'.heap.size)):OnW t ow W0 A (ow'.cut W) X' W' where
 is:=hA _ _ _ _ h.is hm.size (λk hk hs=>⟨Own.cut_old hk,hm.block k hk (λhX=>by rw [(h.xs k hX).2.2] at hs;exact zj ht hs)⟩)
 st:=⟨h.st.mod.trans hm (λ_ _ e=>e) (λk hk e=>by have:=(h.xs k e).1;omega),λk hk=>(Own.cut_old (by have:=h.st.size;omega)).trans (h.st.agree k hk)⟩
 xs:=λk hk=>by
  have hs:=hm.size
  rcases hx k hk with h1|h1
  ·have h2:=h.xs k h1
   exact⟨h2.1,by omega,by rw [Own.cut_old h2.2.1];exact h2.2.2⟩
  exact⟨by have:=h.st.size;omega,by omega,Own.cut_new h1.1⟩
theorem OnW.step {t:List Nat}{ow:Own}{W0:World}{A A':Own->World->Prop}{ow1 ow2:Own}{X:Nat->Prop}{W W':World}(h:OnW t ow W0 A ow1 X W)(hs:zp t ow1 W ow2 W')(hn:A' ow2 W'):OnW t ow W0 A' ow2 X W' where
 is:=hn
 st:=h.st.trans hs
 xs:=λk hk=>by
  have h2:=h.xs k hk;exact⟨h2.1,by have:=hs.size;omega,by rw [hs.agree k h2.2.1];exact h2.2.2⟩
theorem OnW.saves {t:List Nat}(ht:t≠ []){ow:Own}{W0:World}{A:Own->World->Prop}{ow1 ow2:Own}{X:Nat->Prop}{W W':World}(h:OnW t ow W0 A ow1 X W)(hs:zp t ow1 W ow2 W'):jm X W W':=
 ⟨hs.size,λk hX hk=>hs.block hk (by rw [(h.xs k hX).2.2];exact zj ht)⟩
theorem zjn(q:ZK):zmv (VQ q):=by
 unfold VQ
 split
 ·exact⟨by simp,by simp,by simp⟩
 split
 ·exact⟨by simp,by simp,by simp⟩
 exact⟨by simp,by simp,by simp⟩
theorem zdk(q:ZK)(h9:q.1≠0):zc1 (VQ q).kind:=by
 unfold VQ zc1
 split
 ·exact absurd (by assumption) h9
 split
 ·exact .inr (.inl rfl)
 exact .inr (.inr (.inl rfl))
theorem zjo {S:zf}{q:ZK}(hy:ziT S q):(VQ q).kind≠3->0<=(VQ q).node/\(VQ q).node<S.nodes.length:=by
 obtain⟨h1,h2⟩:=hy;unfold jy at h1;unfold zk6 at h2;unfold VQ
 split
 ·rename_i h0
  rw [if_pos h0] at h1;intro _
  by_cases hl:q.2<S.nodes.length
  ·simp only;omega
  rw [if_neg hl] at h1;cases h1
 split
 ·intro _;simp only;omega
 intro h;exact absurd rfl h
theorem zjp(s:StD)(S:zf)(v:Int)(k L:Nat)(hs:s=zt v)(hG:zr v k L S)(hL:L<=3000000000)(q:ZK)(h9:q.1≠0):zr v (k+1) (L+16) (doW s S (VQ q)).1:=by
 rw [hs];exact hG.doesA hL _ (zjn q).len (zdk q h9)
theorem ys(S:zf)(i:Nat)(n:zq):(setNode S i n).nodes.length=S.nodes.length:=by unfold setNode;simp
theorem J8(S:zf)(kind src inst:Int)(b:Nat)(more:List UInt8):(j1 S kind src inst b more).nodes.length=S.nodes.length:=by
 unfold j1
 generalize List.range S.nodes.length=js
 induction js generalizing S with
 |nil=>rfl
 |cons j js ih=>rw [List.foldl_cons,ih,(x9 _ _).1]
theorem zeM(S:zf)(i:Nat):(yo S i).1.nodes.length=S.nodes.length:=by
 unfold yo
 split
 ·rfl
 split
 ·rfl
 rw [J8];rfl
theorem V2(S:zf)(i src:Nat)(inst:Int)(b:Nat)(more:List UInt8):(countPromise S i src inst b more).nodes.length=S.nodes.length:=by
 unfold countPromise
 split
 ·rfl
 split
 ·rfl
 simp only
 split
 ·rfl
 split
 ·rfl
 rw [J8]
theorem zbG(S:zf)(i src:Nat)(inst:Int)(b:Nat):(countVote S i src inst b).nodes.length=S.nodes.length:=by
 unfold countVote
 split
 ·rfl
 split
 ·rfl
 simp only
 split
 ·rfl
 rw [J8]
theorem zhj(S:zf)(i:Nat)(f:yQ)(inst:Int)(b:Nat)(more:List UInt8):(yN S i f inst b more).nodes.length=S.nodes.length:=by
 unfold yN
 split
 ·rw [(x9 _ _).1]
 split
 ·simp only
  split
  ·rw [(x9 _ _).1,ys]
  rw [ys]
 simp only
 split
 ·rw [(x9 _ _).1,ys]
 rw [ys]
theorem zeN(S:zf)(i:Nat)(f:yQ):(yG S i f).nodes.length=S.nodes.length:=by
 unfold yG
 split
 ·rfl
 simp only
 split
 ·exact zhj _ _ _ _ _ _
 split
 ·exact V2 _ _ _ _ _ _
 split
 ·exact zbG _ _ _ _ _
 split
 ·rw [ys];rfl
 rfl
theorem zkP(S:zf)(p:Int):(xL S p).1.nodes.length=S.nodes.length:=by
 unfold xL
 split
 ·rfl
 split
 ·rfl
 simp only
 split
 ·rw [zeN]
 rfl
theorem zkQ(S:zf)(p:Int):(zh7 S p).1.nodes.length=S.nodes.length:=by
 unfold zh7
 split
 ·rfl
 split<;>rfl
theorem zkR(S:zf)(p:Int):(zly S p).1.nodes.length=S.nodes.length:=by
 unfold zly
 split
 ·rfl
 split
 ·rfl
 simp only
 split
 ·rfl
 split
 ·show(yr _ _ _).1.nodes.length=_
  rw [(qE _ _ _).1]
 rw [(qE _ _ _).1]
theorem zkS(S:zf)(p b:Int)(m:Nat):(zlz S p b m).1.nodes.length=S.nodes.length:=by
 unfold zlz
 split
 ·rfl
 split
 ·rfl
 split
 ·rfl
 split<;>rfl
theorem zfx(S:zf):(xp S).nodes.length=S.nodes.length:=by
 unfold xp;rw [qn,qn]
theorem zfy(s:StD)(S:zf)(o:OpD):(vz S s o).1.nodes.length=S.nodes.length:=by
 unfold vz;simp only
 split
 ·rw [ys];rfl
 split
 ·exact zeM _ _
 split
 ·exact zkP _ _
 split
 ·exact zkQ _ _
 split
 ·exact zkR _ _
 split
 ·exact zkS _ _ _ _
 split
 ·rw [ys]
 split
 ·rw [ys]
 split
 ·rw [ys];rfl
 split
 ·rw [ys]
 rfl
theorem zmA(s:StD)(S:zf)(o:OpD):(doW s S o).1.nodes.length=S.nodes.length:=by
 unfold doW
 split
 ·rfl
 split
 ·rfl
 simp only
 split
 ·show(xp _).nodes.length=_
  rw [zfx,zfy]
 rw [zfx,zfy]
structure zm1(s:StD)(v:Int)(S':zf)(b:Bool)(r g:Nat)(S:zf):Prop where
 runs:YQ s r g S S' b
 good:∃k L,zr v k L S/\L+16*g<=3000000000/\k+g<=100000000
def zmB(s:StD)(v:Int)(S1:zf)(N g:Nat)(σ:ZK×zf):Prop:=∃k L f,zr v k L σ.2/\vY s f σ.1 σ.2 S1/\L+16*(f+g)<=3000000000/\k+(f+g)<=100000000/\σ.2.nodes.length=N
theorem zmB.next {v:Int}{S1:zf}{N g:Nat}{σ:ZK×zf}(h:zmB (zt v) v S1 N g σ){q:ZK}(hs:Vo σ.2 σ.1 q)(hy:ziT σ.2 q):zmB (zt v) v S1 N g (ziS q,(doW (zt v) σ.2 (VQ q)).1):=by
 obtain⟨k,L,f,hG,hR,h1,h2,h3⟩:=h;obtain⟨f',rfl,aa⟩:=hR.next hs hy;exact⟨k+1,L+16,f',zjp _ _ v k L rfl hG (by omega) q (hR.nine hs hy),aa,by omega,by omega,by rw [zmA];exact h3⟩
variable {B:Nat}{K:WK}{tv:Value}{lp:Nat->Option Nat}{S:zf}{v:Int}{k0 L:Nat}{t:List Nat}{ow:Own}{a:Addr}{w:World}
def zjq(u:Nat->Value)(bx r i:Nat)(Ds:List Nat):Act:={tmps:=#[u 0,.int .i64 (r:Nat),.pointer (some ⟨bx,0,none⟩),u 3,u 4,u 5,u 6,u 7,u 8,u 9,u 10,u 11,u 12,u 13,u 14,.int .i64 (r:Nat),.int .i64 (i:Nat),u 17,u 18,u 19,u 20,u 21,u 22,u 23,u 24,u 25,u 26,u 27,u 28],defers:=zmz Ds}
def zm2(B:Nat)(K:WK)(v:Int)(S':zf)(b:Bool)(t:List Nat)(ow:Own)(w:World)(bx r:Nat)(a':Act)(W:World):Prop:=
 ∃(i g:Nat)(S:zf)(ow':Own)(Ds:List Nat),a'=zjq (λk=>a'.tmps.getD k undef) bx r i Ds/\
  i<=r/\zm1 (zt v) v S' b (r - i) g S/\zp t ow w ow' W/\zK B K S t ow' W/\Blk W bx #[.pointer (some ⟨B,0,none⟩)] 24/\ow' bx=[] /\zeL w.heap.size ow' Ds W
theorem zjr(hG:zr v k0 L S)(hv:known v=true)(ht:t≠ [])(r:Nat)(hr:r<=1000){g:Nat}{S':zf}{b:Bool}(hF:YQ (zt v) r g S S' b)(hL:L+16*g<=3000000000)(hk:k0+g<=100000000)
 (h:zK B K S t ow w) (he:jv w a) (hge:ow 2=[]):Calls prog 11 #[.pointer (some ⟨B,0,none⟩),.int .i64 (r:Nat)] w (qK B K S' t ow w (.tuple #[.bool b,.int .i64 0])):=by
 have a4:Below w.heap.size w (w.alloc (.cells #[.pointer (some ⟨B,0,none⟩)] 24)):=zi (N2 _ _) _;have b3:=(zK.loc B K S t).cut h a4;have kb:Blk (w.alloc (.cells #[.pointer (some ⟨B,0,none⟩)] 24)) w.heap.size #[.pointer (some ⟨B,0,none⟩)] 24:=Blk.new rfl;have bv:(ow.cut w) w.heap.size=[]:=Own.cut_new (N0 _);have al:zp t ow w (ow.cut w) (w.alloc (.cells #[.pointer (some ⟨B,0,none⟩)] 24)):=zp.wrap a4 (zp.refl _ _ _);obtain⟨tv,lp,am⟩:=b3;have aq:=V7 _ am;have t1:decide ((r:Int)<0)=false:=by simp
 have t2:decide (1000<(r:Int))=false:=by simp;omega
 have bn:zm1 (zt v) v S' b (r - 0) g S:=⟨hF,k0,L,hG,hL,hk⟩;obtain⟨w1,a0⟩:∃x,x=w.alloc (.cells #[.pointer (some ⟨B,0,none⟩)] 24):=⟨_,rfl⟩;rw [← a0] at a4 am kb al aq;replace aq:=hid aq;replace am:=hid am;clear hG hF h;refine zl func11 rfl ?_;simp only [ntmps11,R8,Nat.reduceAdd,Nat.reduceSub];go_wp2_with fail
 rw [← a0];clear a0;refine aq.out.mono ?_;rintro e w2⟨rfl,ca⟩;obtain rfl:=ca.symm;go_wp2;refine wp_loop (zm2 B K v S' b t ow w w.heap.size r) (λa' _=>r - (intOf (a'.tmps.getD 16 undef)).toNat) ?_ ?_
 ·exact⟨0,g,S,ow.cut w,[],rfl,Nat.zero_le _,bn,al,⟨tv,lp,am.out⟩,kb,bv,List.nodup_nil,λD hD=>by cases hD⟩
 rintro a' wr⟨i,g1,S1,ad,Ds,ha,hi,a3,a7,⟨ba,a1,hI⟩,kx,b9,a5⟩
 obtain⟨u,hu⟩:∃u,a'=zjq u w.heap.size r i Ds:=⟨_,ha⟩;clear ha bn al am kb bv aq;subst hu;unfold zjq;obtain⟨ap,k1,L1,bd,b8,cd⟩:=a3;have af:=zhg bd hI;have cx:=kx.cell
 by_cases hir:i<r
 ·have t3:decide ((i:Int)<(r:Int))=true:=by simpa using hir
  have ci:IntKind.i64.wrap ((i:Int)+1)=(i:Int)+1:=by rw [N8];omega
  obtain⟨r',b7⟩:∃r',r - i=r'+1:=⟨r - i - 1,by omega⟩;rw [b7] at ap
  cases hb:qV S1 with
  |true=>
   rw [hb] at af
   obtain⟨rfl,rfl⟩:S1=S'/\b=true:=by
    cases ap with
    |rests _=>exact⟨rfl,rfl⟩
    |round h1 _ _=>rw [hb] at h1;cases h1
   replace af:=hid af;replace hI:=hid hI;go_wp2_with fail
   refine af.out.mono ?_;rintro e w3⟨rfl,ai⟩;have aa:=a5.step ht (zp.of_below t ad ai);go_wp2;refine Qr Ds w3 aa.1 (λD hD=>(aa.2 D hD).2.2.2) (v:=.tuple #[.bool true,.int .i64 0]) (by simp [results,Tryz.results11,go_sem]) ?_;have a2:zK B K S1 t ad w3:=⟨_,_,(zk.loc B K ba a1 S1 t).below hI.out ai⟩;obtain⟨q1,q2⟩:=Vs ht (zK.loc B K S1 t) rfl Ds w3 (λD hD=>⟨(aa.2 D hD).1,(aa.2 D hD).2.2.1⟩) a2 (a7.trans (zp.of_below t ad ai));exact⟨rfl,ad,q2,q1⟩
  |false=>
   rw [hb] at af;replace af:=hid af;replace hI:=hid hI;go_wp2_with fail
   refine af.out.mono ?_;rintro e w3⟨rfl,ai⟩;have ce:=(kx.call ai).cell;go_wp2_with fail
   refine(zhh B _).mono ?_;rintro e w4⟨rfl,bg⟩
   obtain⟨f2,g2,S2,b5,aw,bk⟩:∃f2 g2 S2,g1=f2+g2/\vY (zt v) f2 (0,0) S1 S2/\YQ (zt v) r' g2 S2 S' b:=by
    cases ap with
    |rests h1=>rw [hb] at h1;cases h1
    |round _ h1 h2=>exact⟨_,_,_,rfl,h1,h2⟩
   subst b5;have a9:Below wr.heap.size wr w4:=by rw [bg];exact zi ai _
   have a8:Blk w4 w3.heap.size #[.pointer (some ⟨B,0,none⟩)] 24:=by rw [bg];exact Blk.new rfl
   have b6:=ai.size;have bt:w3.heap.size<w4.heap.size:=a8.lt;have bl:=(zk.loc B K ba a1 S1 t).cut hI.out a9;have ab:zp t ad wr (ad.cut wr) w4:=zp.wrap a9 (zp.refl _ _ _);have ae:=a7.trans ab;have ao:=a5.step ht ab;have an:(ad.cut wr) w3.heap.size=[]:=Own.cut_new b6;have aj:(ad.cut wr) w.heap.size=[]:=(Own.cut_old kx.lt).trans b9;have au:=kx.call a9;have ax:=bd.n0;have b0:=he.lt;have cc:=he.step ht ae hge;have ak:(ad.cut wr) 2=[]:=by rw [ae.agree _ b0];exact hge
   have br:zmB (zt v) v S2 S1.nodes.length g2 ((0,0),S1):=⟨k1,L1,f2,bd,aw,b8,cd,rfl⟩;obtain⟨az,bo⟩:∃o,ad.cut wr=o:=⟨_,rfl⟩;rw [bo] at bl ab ae ao an aj ak;obtain⟨N,hN⟩:∃N,S1.nodes.length=N:=⟨_,rfl⟩;rw [hN] at br ax;obtain⟨qb,bu⟩:∃q,w3.heap.size=q:=⟨_,rfl⟩;rw [bu] at a8 an bt⊢;have ah:∀ow' W,zp t az w4 ow' W->∀k,k<w4.heap.size->az k=[] ->W.heap[k]?=w4.heap[k]?:=λow' W hs k h1 h2=>hs.block h1 (by rw [h2];exact zj ht)
   clear bg af bo bu aw ap cx ce ab;go_wp2_with fail
   refine yV (gf:=68) (lb:=#[.pointer (some ⟨qb,0,none⟩)]) rfl (enters_of func68 (by kernel_rfl) rfl)
    (zhi (zt v) v qb B K N ax.2 t S1) (λ_=>rfl)
    (λσ X W=>∃ow',OnW t az w4 (zK B K σ.2 t) ow' X W/\zmB (zt v) v S2 N g2 σ)
    (λ_ _ _=>False)
    (λσ X X' W W' h hm hx=>by obtain⟨ow',h1,h2⟩:=h;exact⟨_,h1.stab ht (zK.loc B K σ.2 t) hm hx,h2⟩)
    (λ_ _ X X' W W' h hm hx=>h)
    (λσ X W h=>by
     obtain⟨ow',h1,k',L',f',h2,h3,h4,h5,h6⟩:=h
     exact⟨a8.kept (ah _ _ h1.st _ bt an),h6,⟨_,h1.is⟩,⟨_,_,h2⟩,_,_,h3⟩)
    (λσ X W h=>by obtain⟨ow',h1,h2⟩:=h;exact⟨h1.st.size,λk hk=>(h1.xs k hk).2.1⟩)
    ⟨az,⟨⟨_,_,bl⟩,zp.refl _ _ _,λk h=>h.elim⟩,br⟩
    6 37 (λq=> #[.int .i64 (VQ q).kind,.int .i64 (VQ q).node,.int .i64 (VQ q).a,.int .i64 (VQ q).b,.int .u32 ((VQ q).mask:Nat),.string (bs (VQ q).s)]) ?assign ?body ?done ?stop
   case assign=>
    intro l' x W J hJ;rw [jf] at hJ⊢;unfold opV at hJ⊢
    gi_wp2
    exact hJ
   case stop=>rintro D c X W hD a6 h;exact h.elim
   case body=>
    rintro l' σ q cb X X1 W1 W am⟨ow',ac,bp⟩⟨bm,bh⟩ ch ck cj kc cf _;have ag:=bp.next bm bh;obtain⟨k',L',f',h2,h3,h4,h5,h6⟩:=bp;have bf:=au.kept (ah _ _ ac.st _ au.lt aj);have ay:=zmx h2 (by omega) (by omega) hv ht (VQ q) (zjn q) (zdk q (h3.nine bm bh)) (zjo bh) ac.is (cc.step ht ac.st ak) (by rw [ac.st.agree _ (by have:=ae.size;omega)];exact ak);unfold opV at ay;rw [jf];unfold opV;have cl:=bf.cell;have cg:=kc.cell;replace ay:=hid ay;replace ag:=hid ag
    gi_wp2_with fail
    refine(inRound _ _ ay.out).mono ?_;rintro e w5⟨rfl,b1,bq,b4⟩
    gi_wp2
    exact⟨⟨b1,ac.step bq b4,ag.out⟩,ac.saves ht bq⟩
   case done=>
    rintro D σ X W hD a6⟨q,bz,b2⟩⟨ow',ac,k',L',f',h2,h3,h4,h5,h6⟩ bc;obtain⟨rfl,bw⟩:=h3.fin bz b2;have bj:=ae.trans ac.st;have be:=(ao.step ht ac.st).cons (D:=D) (λx hx=>by have:=(ao.2 x hx).2.1;omega) (by have:=ae.size;omega) (ac.xs D a6).2.1 (ac.xs D a6).2.2 bc;have bf:=au.kept (ah _ _ ac.st _ au.lt aj);have bi:ow' w.heap.size=[]:=(ac.st.agree _ au.lt).trans aj;have ar:zm1 (zt v) v S' b (r - (i+1)) g2 σ.2:=⟨by rw [← bw,show r - (i+1)=r' by omega];exact bk,k',L',h2,by omega,by omega⟩;have bb:=ac.is;go_wp2;refine⟨⟨i+1,g2,σ.2,ow',D::Ds,?_,by omega,ar,bj,bb,bf,bi,be⟩,by simp [intOf];omega⟩;rw [show(i:Int)+1=((i+1:Nat):Int)by simp];rfl
 obtain rfl:r=i:=by omega
 have t3:decide ((r:Int)<(r:Int))=false:=by simp
 replace af:=hid af;replace hI:=hid hI;go_wp2_with fail
 refine af.out.mono ?_;rintro e w3⟨rfl,ai⟩;have aa:=a5.step ht (zp.of_below t ad ai);rw [Nat.sub_self] at ap;obtain⟨rfl,rfl⟩:S1=S'/\b=qV S1:=by cases ap;exact⟨rfl,rfl⟩
 go_wp2;refine Qr Ds w3 aa.1 (λD hD=>(aa.2 D hD).2.2.2) (v:=.tuple #[.bool (qV S1),.int .i64 0]) (by simp [results,Tryz.results11,go_sem]) ?_;have a2:zK B K S1 t ad w3:=⟨_,_,(zk.loc B K ba a1 S1 t).below hI.out ai⟩;obtain⟨q1,q2⟩:=Vs ht (zK.loc B K S1 t) rfl Ds w3 (λD hD=>⟨(aa.2 D hD).1,(aa.2 D hD).2.2.1⟩) a2 (a7.trans (zp.of_below t ad ai));exact⟨rfl,ad,q2,q1⟩
end
section
open Go Go.RowKit Go.Shelf Go.Extern.Stop Go.Stop Go.Extern
attribute [local go_sem] Oper.semAt_some zB zo
theorem nB1:zt 1=(1,0,[]):=by kernel_rfl
variable {t:List Nat}{w W W':World}{B:Nat}{K:WK}{S:zf}{ow:Own}{a:Addr}{v:Int}{k L:Nat}
theorem vY.good {s:StD}{f:Nat}{p:ZK}{S S':zf}(h:vY s f p S S'):∀ {k L:Nat},s=zt v->zr v k L S->L+16*f<=3000000000->zr v (k+f) (L+16*f) S':=by
 induction h with
 |done _ _=>intro k L _ hG _;exact hG
 |step h1 h2 h3 h9 ih=>
  rename_i p q S S' f
  intro k L hs hG hL;have:=ih hs (zjp _ _ v k L hs hG (by omega) q h9) (by omega)
  rwa [show k+1+f=k+(f+1)by omega,show L+16+16*f=L+16*(f+1)by omega] at this
theorem YQ.good {s:StD}{r g:Nat}{S S':zf}{b:Bool}(h:YQ s r g S S' b):∀ {k L:Nat},s=zt v->zr v k L S->L+16*g<=3000000000->zr v (k+g) (L+16*g) S':=by
 induction h with
 |none=>intro k L _ hG _;exact hG
 |rests _=>intro k L _ hG _;exact hG
 |round h1 h2 h3 ih=>
  rename_i r f g S S1 S' b
  intro k L hs hG hL;have:=ih hs (h2.good hs hG (by omega)) (by omega)
  rwa [show k+f+g=k+(f+g)by omega,show L+16*f+16*g=L+16*(f+g)by omega] at this
end
section
open Go Go.RowKit Go.Shelf Go.Extern.Stop Go.Stop Go.Extern
attribute [local go_sem] Oper.semAt_some zB zo
theorem qa(x:vH)(i:Nat)(hi:i<x.ws.length)(hn:Ja x.ws i)(w:World)(h:vw x w):Calls prog 124 #[xR x,.int .i64 (i:Nat)] w λe w'=>e=.returned (.int .i64 (atP x.ws i:Nat))/\Below w.heap.size w w':=by
 obtain⟨num,ws,b,C,cap⟩:=x;obtain⟨kw,af, -,aa, -,ac,hC⟩:=h;unfold xR;simp only at kw af aa ac hC hi hn⊢;obtain⟨s,hs⟩:∃s,ws[i]?=some s:=⟨_,N3 hi⟩;have ag:=aa s (List.mem_of_getElem? hs);unfold Ja at hn;rw [hs,Option.getD_some] at hn;have ab:=λW=>Tryz.strconv_Atoi_ok (bs s) (by rw [zI];omega) _ (by rw [xE];exact hn) W
 have y0:(0:Int)<=(i:Int):=by omega
 have y1:(i:Int)<(ws.length:Int):=by omega
 have c0:w.cell? ⟨b,i,none⟩=some (.string (bs s)):=by rw [kw.cell];exact hC i s hs
 have ca:=jo c0 (.cells #[.int .i64 num,.slice (some ⟨b,0,none⟩) ws.length cap] 109);replace ab:=hid ab;replace hn:=hid hn;replace hs:=hid hs;replace hC:=hid hC;replace aa:=hid aa
 go_enter func124,ntmps124
 go_wp2_with fail
 refine(ab.out _).mono ?_;rintro e w1⟨rfl,ad⟩
 have ae:Below (w.alloc (.cells #[.int .i64 num,.slice (some ⟨b,0,none⟩) ws.length cap] 109)).heap.size (w.alloc (.cells #[.int .i64 num,.slice (some ⟨b,0,none⟩) ws.length cap] 109)) w1:=by
  rcases ad with h|⟨t,h⟩
  ·rw [h];exact N2 _ _
  rw [h];exact Lib.bytesWorld_below _ _ _
 clear ad;go_wp2;go_ret
 exact⟨rfl,ze (zi (N2 _ _) _) ae⟩
structure xD(w:World)(D B:Nat)(K:WK)(S:zf)(told:List UInt8)(ow:Own)(W:World):Prop where
 st:zp [1] (λ_=>[]) w ow W
 wd:zK B K S [1,0] ow W
 dk:ZB D B told [1,1] ow W
variable {w W W':World}{D B:Nat}{K:WK}{S S':zf}{told told':List UInt8}{ow ow':Own}{a:Addr}{v:Int}{k L:Nat}
theorem zlX:zaM [1,0] [1,1]:=by unfold zaM Sub;decide
theorem xD.below(h:xD w D B K S told ow W)(hb:Below W.heap.size W W'):xD w D B K S told (ow.cut W) W':=
 ⟨h.st.trans (zp.wrap hb (zp.refl _ _ _)),(zK.loc B K S [1,0]).cut h.wd hb,(ZB.loc D B told [1,1]).cut h.dk hb⟩
theorem xD.onWorld(h:xD w D B K S told ow W)(hs:zp [1,0] ow W ow' W')(hW:zK B K S' [1,0] ow' W'):xD w D B K S' told ow' W':=
 ⟨h.st.trans (hs.mono ⟨[0],rfl⟩),hW,(ZB.loc D B told [1,1]).step h.dk hs zlX⟩
theorem xD.onDesk(h:xD w D B K S told ow W)(hs:zp [1,1] ow W ow' W')(hD:ZB D B told' [1,1] ow' W'):xD w D B K S told' ow' W':=
 ⟨h.st.trans (hs.mono ⟨[1],rfl⟩),(zK.loc B K S [1,0]).step h.wd hs zlX.symm,hD⟩
theorem xD.err(h:xD w D B K S told ow W)(he:jv w a):jv W a/\ow 2=[]:=⟨he.step (by simp) h.st rfl,h.st.agree _ he.lt⟩
theorem xD.bel(h:xD w D B K S told ow W):Below w.heap.size w W:=h.st.below (N0 _) (λ_ _=>zj (by simp))
def vZ(w:World)(D B:Nat)(K:WK)(S:zf)(told:List UInt8)(ow:Own)(W:World)(e:Ending)(w':World):Prop:=
 e=.returned (.tuple #[])/\∃ow',zp [1] ow W ow' w'/\xD w D B K S told ow' w'
theorem xD.tell(h:xD w D B K S told ow W)(ws:List (List UInt8))(hn:1<=ws.length/\ws.length<=100000)(hl:(Lib.join ws [32]).length<=1000000)(htl:told.length<=10000000):
 Calls prog 126 #[.pointer (some ⟨D,0,none⟩),.slice (some ⟨W.heap.size,0,none⟩) ws.length ws.length] (W.alloc (.cells (ws.map Zc).toArray 9)) (vZ w D B K S (told++xN ws) ow W):=by
 have hb:Below W.heap.size W (W.alloc (.cells (ws.map Zc).toArray 9)):=zi (N2 _ _) _;have h1:=h.below hb;refine(ZT ws ⟨hn.1,hn.2,N0 _⟩ hl htl _ (λj x hx=>?_) h1.dk).mono ?_
 ·rw [Nat.zero_add,(Blk.new (w:=W) (cs:=(ws.map Zc).toArray) (t:=9) rfl).cell j,List.getElem?_toArray,List.getElem?_map,hx];rfl
 rintro e w'⟨rfl,ow',hs,hD⟩
 exact⟨rfl,ow',zp.wrap hb (hs.mono ⟨[1],rfl⟩),h1.onDesk hs hD⟩
theorem zlY:xN [[111,107]]=okT:=by decide
theorem Vt(h:xD w D B K S told ow W)(he:jv w a)(hG:zr v k L S)(hk:k<=100000000)(hL:L<=3000000000)(hv:known v=true)(o:OpD)(ho:zmv o)(hA:zc1 o.kind)(hi:o.kind≠3->0<=o.node/\o.node<S.nodes.length)(hr:doW (zt v) S o=(S',0))(htl:told.length<=1000000):
 Calls prog 123 #[.pointer (some ⟨D,0,none⟩),opV o] W (vZ w D B K S' (told++okT) ow W):=by
 obtain⟨kd,nd,A,af,ag,ai⟩:=o;obtain⟨W0,ae⟩:∃W0,W0=W.alloc (.cells #[.int .i64 kd,.int .i64 nd,.int .i64 A,.int .i64 af,.int .u32 (ag:Nat),.string (bs ai)] 37):=⟨_,rfl⟩;have aj:Below W.heap.size W W0:=by rw [ae];exact zi (N2 _ _) _
 have kO:Blk W0 W.heap.size #[.int .i64 kd,.int .i64 nd,.int .i64 A,.int .i64 af,.int .u32 (ag:Nat),.string (bs ai)] 37:=by rw [ae];exact Blk.new rfl
 have h0:=(h.below aj).below (zm (N2 W0.heap.size W0));have ac:zp [1] ow W ((ow.cut W).cut W0) W0.drew:=zp.wrap aj (zp.wrap (zm (N2 _ _)) (zp.refl _ _ _));obtain⟨am,aa⟩:∃o,o=(ow.cut W).cut W0:=⟨_,rfl⟩;have ao:am W.heap.size=[]:=by rw [aa,Own.cut_old kO.lt];exact Own.cut_new (N0 _)
 rw [← aa] at h0 ac;clear aa;have h1:=h0.err he;have ab:=zmx hG hk hL hv (by simp) _ ho hA hi h0.wd h1.1 h1.2;rw [hr] at ab;obtain⟨tv,hD,hR,o1,o2⟩:=h0.dk;have ah:Blk W0.drew D #[.pointer (some ⟨B,0,none⟩),tv] 104:=hD;unfold opV at ab⊢;simp only at ab⊢;replace ab:=hid ab;replace h0:=hid h0;replace h:=hid h;replace o2:=hid o2;replace hi:=hid hi;replace hr:=hid hr;clear h1
 go_enter func123,ntmps123
 go_wp2_with fail
 rw [← ae];clear ae;refine zd [O 0,O 1,O 2,O 3,O 4,E 5,O 6] none (λw'=>Blk w' D #[.pointer (some ⟨B,0,none⟩),tv] 104/\Blk w' W.heap.size #[.int .i64 kd,.int .i64 nd,.int .i64 A,.int .i64 af,.int .u32 (ag:Nat),.string (bs ai)] 37/\True) (by kernel_rfl) (by kernel_rfl) ⟨ah,kO.drew,trivial⟩ ?_
 refine Wb ?_
 refine zc rfl (λJ hJ=>?_);go_wp2_with fail
 refine ab.out.mono ?_;rintro e w2⟨rfl,ar,ad,ap⟩;have h2:=h0.out.onWorld ad ap;have al:=ah.kept (ad.block ah.lt (by rw [o1];exact zlX.1));have an:=kO.drew.kept (ad.block kO.drew.lt (by rw [ao];exact zj (by simp)));go_wp2;refine hJ.out _ _ (λ_=>⟨al,an,trivial⟩) ?_;clear hJ J
 refine Wb ?_
 refine zg ?_;have ht:=h2.tell [[111,107]] (by simp) (by decide) (by omega);rw [zlY] at ht;replace ht:=hid ht;replace h2:=hid h2;go_wp2_with fail
 refine ht.out.mono ?_;rintro e w3⟨rfl,aq,ak,h3⟩;go_wp2;go_end0
 exact⟨rfl,aq,(ac.trans (ad.mono ⟨[0],rfl⟩)).trans ak,h3⟩
end
open Go Go.RowKit Go.Shelf Go.Extern.Stop Go.Stop Go.Extern
attribute [local go_sem] Oper.semAt_some zB zo
theorem zjs(n:Nat):vr n=Lib.decDigits n:=by
 unfold vr Lib.itoa;rw [if_neg (by omega)];rfl
theorem zbH(n:Nat)(hn:n<100)(w:World):Calls prog 129 #[.int .i64 (n:Nat)] w λe w'=>e=.returned (.string (bs (vr n)))/\w'=w:=by
 rw [zjs];exact Tryz.strconv_Itoa_small n hn w
theorem yK {n:Nat}(hn:n<100):(vr n).length<=2:=by
 rw [zjs]
 by_cases h:n<10
 ·rw [Lib.decDigits_one h];simp
 rw [Lib.decDigits_two h hn];simp
theorem zfz(x y:Nat)(hx:x<100)(hy:y<100)(w:World):Calls prog 127 #[.int .i64 (x:Nat),.int .i64 (y:Nat)] w λe w'=>e=.returned (.string (bs (j0 x y)))/\w'=w:=by
 have h1:=λW=>zbH x hx W
 have h2:=λW=>zbH y hy W
 obtain⟨a,ha⟩:∃a,vr x=a:=⟨_,rfl⟩;obtain⟨b,hb⟩:∃b,vr y=b:=⟨_,rfl⟩;have hp:j0 x y=a++ [46] ++b:=by unfold j0;rw [ha,hb]
 have l1:=yK hx;have l2:=yK hy;rw [ha] at l1;rw [hb] at l2;have q1:¬(9223372036854775807<(bs a).size+1):=by rw [zI];omega
 have q2:¬(9223372036854775807<(bs (a++ [46])).size+(bs b).size):=by rw [zI,zI,N1];simp;omega
 rw [hp];rw [ha] at h1;rw [hb] at h2;replace h1:=hid h1;replace h2:=hid h2;replace hp:=hid hp;replace ha:=hid ha;replace hb:=hid hb;have e1:bs a++(⟨#[46]⟩:ByteArray)=bs (a++ [46]):=by simp [bs,ByteArray.ext_iff]
 have e2:bs (a++ [46])++bs b=bs (a++ [46] ++b):=by simp [bs,ByteArray.ext_iff]
 go_enter func127,ntmps127
 go_wp2_with fail
 refine(h1.out _).mono ?_;rintro e w1⟨rfl,aa⟩;obtain rfl:=aa.symm;go_wp2_with fail
 refine(h2.out _).mono ?_;rintro e w1⟨rfl,aa⟩;obtain rfl:=aa.symm;go_wp2;go_ret
 exact⟨by simp,rfl⟩
variable {w W W':World}{D B:Nat}{K:WK}{S S':zf}{told told':List UInt8}{ow ow':Own}{a:Addr}{v:Int}{k L:Nat}
theorem zdl(h:xD w D B K S told ow W)(he:jv w a)(hG:zr v k L S)(hk:k<=100000000)(hL:L<=3000000000)(hv:known v=true)(x:vH)(hx:vw x w)(hl:x.ws.length=3)(hn:Ja x.ws 1)(hi:atP x.ws 1<S.nodes.length)(hd:(x.ws[2]?.getD []).length<=100)
 (hr:doW (zt v) S ⟨1,atP x.ws 1,0,0,0,x.ws[2]?.getD []⟩=(S',0)) (htl:told.length<=1000000):
 Calls prog 80 #[.pointer (some ⟨D,0,none⟩),xR x] W (vZ w D B K S' (told++okT) ow W):=by
 have ak:=h.bel;have aa:=λW' hW'=>qa x 1 (by omega) hn W' (hx.below hW')
 obtain⟨num,ws,b,C,cap⟩:=x;have ao:=hx.below ak;obtain⟨kw,ar, -,aj, -,ah,hC⟩:=ao;unfold xR at aa⊢;simp only at aa kw ar aj ah hC hi hn hl hd hr⊢;obtain⟨s,hs⟩:∃s,ws[2]?=some s:=⟨_,N3 (by omega)⟩;rw [hs,Option.getD_some] at hr hd;obtain⟨n,ae⟩:∃n,atP ws 1=n:=⟨_,rfl⟩;rw [ae] at aa hr hi;obtain⟨W0,ac⟩:∃W0,W0=W.alloc (.cells #[.int .i64 num,.slice (some ⟨b,0,none⟩) ws.length cap] 109):=⟨_,rfl⟩;have ad:Below W.heap.size W W0:=by rw [ac];exact zi (N2 _ _) _
 have kX:Blk W0 W.heap.size #[.int .i64 num,.slice (some ⟨b,0,none⟩) ws.length cap] 109:=by rw [ac];exact Blk.new rfl
 have ap:=kw.call ad;have cs:W0.drew.cell? ⟨b,2,none⟩=some (.string (bs s)):=by show W0.cell? _=_;rw [ap.cell];exact hC 2 s hs
 have y0:(2:Int)<(ws.length:Int):=by omega
 replace aa:=hid aa;replace hs:=hid hs;replace hC:=hid hC;replace aj:=hid aj;replace h:=hid h;replace hr:=hid hr;replace ae:=hid ae;replace hn:=hid hn;replace hG:=hid hG;replace hl:=hid hl
 go_enter func80,ntmps80
 go_wp2_with fail
 rw [← ac];clear ac;refine zd [O 0,O 1,O 3,O 4,O 5,O 6,E 2,E 7,E 8] (some 8) (λw'=>Blk w' W.heap.size #[.int .i64 num,.slice (some ⟨b,0,none⟩) ws.length cap] 109/\w'.cell? ⟨b,2,none⟩=some (.string (bs s))/\True) (by kernel_rfl) (by kernel_rfl) ⟨kX.drew,cs,trivial⟩ ?_
 refine Wn ?_
 refine zc rfl (λJ hJ=>?_);go_wp2_with fail
 refine(aa.out _ (ze ak (zm ad))).mono ?_;rintro e w2⟨rfl,af⟩;have am:=kX.drew.call af;have al:w2.cell? ⟨b,2,none⟩=some (.string (bs s)):=(af.cell (jx cs)).trans cs;have ab:Below W.heap.size W w2:=ze (zm ad) af;have h2:=h.out.below ab;have ag:zp [1] ow W (ow.cut W) w2:=zp.wrap ab (zp.refl _ _ _);have ai:=Vt h2 he hG.out hk hL hv ⟨1,n,0,0,0,s⟩ ⟨by show s.length<=300;omega,by simp,by simp⟩ (.inl rfl) (λ_=>⟨by simp,by simp only;omega⟩) hr.out htl;replace ai:=hid ai;replace h2:=hid h2;go_wp2;refine hJ.out _ _ (λ_=>⟨am,al,trivial⟩) ?_;clear hJ J;refine zc rfl (λJ hJ=>?_);go_wp2;refine hJ.out _ _ (λ_=>⟨am,al,trivial⟩) ?_;clear hJ J;refine zc rfl (λJ hJ=>?_);go_wp2_with fail
 refine ai.out.mono ?_;rintro e w3⟨rfl,aq,an,h3⟩;go_wp2;refine hJ.out _ _ (λhh=>absurd rfl hh) ?_;clear hJ J;refine zg ?_;go_wp2;go_end0
 exact⟨rfl,aq,ag.trans an,h3⟩
theorem zdm(h:xD w D B K S told ow W)(he:jv w a)(hG:zr v k L S)(hv:known v=true)(x:vH)(hx:vw x w)(hl:x.ws.length=2)(hn:Ja x.ws 1)(hrr:atP x.ws 1<=1000){g:Nat}(hF:YQ (zt v) (atP x.ws 1) g S S' true)(hL:L+16*g<=3000000000)(hk:k+g<=100000000)(htl:told.length<=1000000):
 Calls prog 83 #[.pointer (some ⟨D,0,none⟩),xR x] W (vZ w D B K S' (told++xN [[101,110,100],[49]]) ow W):=by
 have ao:=h.bel;have aa:=λW' hW'=>qa x 1 (by omega) hn W' (hx.below hW')
 obtain⟨num,ws,b,C,cap⟩:=x;unfold xR at aa⊢;simp only at aa hn hl hrr hF⊢;obtain⟨n,af⟩:∃n,atP ws 1=n:=⟨_,rfl⟩;rw [af] at aa hrr hF;obtain⟨W0,ad⟩:∃W0,W0=W.alloc (.cells #[.int .i64 num,.slice (some ⟨b,0,none⟩) ws.length cap] 109):=⟨_,rfl⟩;have ai:Below W.heap.size W W0:=by rw [ad];exact zi (N2 _ _) _
 have kX:Blk W0 W.heap.size #[.int .i64 num,.slice (some ⟨b,0,none⟩) ws.length cap] 109:=by rw [ad];exact Blk.new rfl
 obtain⟨tv,hD,hR,o1,o2⟩:=h.dk;have al:Blk W0.drew D #[.pointer (some ⟨B,0,none⟩),tv] 104:=hD.call (zm ai);have aq:=hD.lt;replace o2:=hid o2;replace aa:=hid aa;replace h:=hid h;replace hF:=hid hF;replace af:=hid af;replace hn:=hid hn;replace hG:=hid hG;replace hl:=hid hl;replace hx:=hid hx
 go_enter func83,ntmps83
 go_wp2_with fail
 rw [← ad];clear ad;refine zd [O 0,O 1,O 2,O 3,O 4,E 5,E 6,O 7,O 8,O 9,O 10,O 11] none (λw'=>Blk w' W.heap.size #[.int .i64 num,.slice (some ⟨b,0,none⟩) ws.length cap] 109/\Blk w' D #[.pointer (some ⟨B,0,none⟩),tv] 104/\True) (by kernel_rfl) (by kernel_rfl) ⟨kX.drew,al,trivial⟩ ?_
 refine Wb ?_
 refine zc rfl (λJ hJ=>?_);go_wp2_with fail
 refine(aa.out _ (ze ao (zm ai))).mono ?_;rintro e w2⟨rfl,ae⟩;have aj:=kX.drew.call ae;have ak:=al.call ae;have ab:Below W.heap.size W w2:=ze (zm ai) ae;have h2:=h.out.below ab;have ah:zp [1] ow W (ow.cut W) w2:=zp.wrap ab (zp.refl _ _ _);have am:ow.cut W W.heap.size=[]:=Own.cut_new (N0 _);have au:ow.cut W D=[1,1]:=(Own.cut_old aq).trans o1;have ag:=h2.err he;have hf:=zjr hG.out hv (t:=[1,0]) (by simp) n hrr hF.out hL hk h2.wd ag.1 ag.2;replace hf:=hid hf;replace h2:=hid h2;go_wp2;refine hJ.out _ _ (λ_=>⟨aj,ak,trivial⟩) ?_;clear hJ J ag;refine zc rfl (λJ hJ=>?_);go_wp2_with fail
 refine hf.out.mono ?_;rintro e w3⟨rfl,ay,ac,ap⟩;have h3:=h2.out.onWorld ac ap;have aw:=aj.kept (ac.block aj.lt (by rw [am];exact zj (by simp)));have ar:=ak.kept (ac.block ak.lt (by rw [au];exact zlX.1));go_wp2;refine hJ.out _ _ (λ_=>⟨aw,ar,trivial⟩) ?_;clear hJ J
 refine Wb ?_
 refine zg ?_;have ht:=h3.tell [[101,110,100],[49]] (by simp) (by decide) (by omega);replace ht:=hid ht;replace h3:=hid h3;go_wp2_with fail
 refine ht.out.mono ?_;rintro e w4⟨rfl,ax,an,h4⟩;go_wp2;go_end0
 exact⟨rfl,ax,(ah.trans (ac.mono ⟨[0],rfl⟩)).trans an,h4⟩
theorem QU(h:xD w D B K S told ow W)(x:vH)(hq:S.notes.length<100)(htl:told.length<=1000000):
 Calls prog 86 #[.pointer (some ⟨D,0,none⟩),xR x] W (vZ w D B K S (told++xN [[102,108,121,105,110,103],vr S.notes.length]) ow W):=by
 obtain⟨num,ws,b,C,cap⟩:=x;unfold xR;simp only;obtain⟨W0,af⟩:∃W0,W0=W.alloc (.cells #[.int .i64 num,.slice (some ⟨b,0,none⟩) ws.length cap] 109):=⟨_,rfl⟩;have ac:Below W.heap.size W W0:=by rw [af];exact zi (N2 _ _) _
 obtain⟨tv,hD,hR,o1,o2⟩:=h.dk;have am:Blk W0 D #[.pointer (some ⟨B,0,none⟩),tv] 104:=hD.call ac;have cD:=(hD.alloc (.cells #[.int .i64 num,.slice (some ⟨b,0,none⟩) ws.length cap] 109)).cell;have h0:=h.below ac;obtain⟨an,ao,hI⟩:=h0.wd;have ae:=Zw W0 hI (by omega);have ab:=λW=>zbH S.notes.length hq W
 have ai:=yK hq;obtain⟨q,ag⟩:∃q,vr S.notes.length=q:=⟨_,rfl⟩;rw [ag] at ab ai⊢;replace ag:=hid ag;replace ae:=hid ae;replace ab:=hid ab;replace o2:=hid o2;replace h:=hid h;replace hI:=hid hI;replace h0:=hid h0
 go_enter func86,ntmps86
 go_wp2_with fail
 rw [← af];clear af;refine ae.out.mono ?_;rintro e w2⟨rfl,ah⟩;have aa:Below W.heap.size W w2:=ze ac ah;have h2:=h.out.below aa;have ad:zp [1] ow W (ow.cut W) w2:=zp.wrap aa (zp.refl _ _ _);go_wp2_with fail
 refine(ab.out _).mono ?_;rintro e w3⟨rfl,aj⟩;obtain rfl:=aj.symm
 have ht:=h2.tell [[102,108,121,105,110,103],q] (by simp) (by
  rw [show Lib.join [[102,108,121,105,110,103],q] [32]=[102,108,121,105,110,103] ++([32] ++q)by simp [Lib.join,List.intercalate]]
  simp;omega) (by omega)
 replace ht:=hid ht;replace h2:=hid h2;go_wp2_with fail
 refine ht.out.mono ?_;rintro e w4⟨rfl,al,ak,h4⟩;go_wp2;go_end0
 exact⟨rfl,al,ad.trans ak,h4⟩
