/- PARTS OF THE PROOF. -/
import Derived.Test.YtobnhnidffipjaaGreatDoorQ30
import Derived.Test.YtobnhnidffipjaaGreatDoorQ33
import Derived.Test.YtobnhnidffipjaaGreatDoorQ42
set_option maxRecDepth 8000
set_option maxHeartbeats 4000000
open Go.Proofs.Tryz
namespace Go.Proofs.YtobnhnidffipjaaGreatDoor
open Go Go.RowKit Go.Shelf Go.Extern.Stop Go.Stop Go.Extern
attribute [local go_sem] Oper.semAt_some zw zn
theorem zhE(B:Nat)(K:WK)(S:zj)(hrm:Xm S)(t:List Nat)(ow:Own)(p:Int)(w:World)(h:zy B K S t ow w):
 Calls prog 58 #[.pointer (some ⟨B,0,none⟩),.int .i64 p] w (vi B K (Yw S p).1 t ow w (.int .i64 (Yw S p).2)):=by
 obtain⟨tv,lp,hI⟩:=h;have hnt:=λW hW=>Xq (B:=B) (K:=K) (tv:=tv) (lp:=lp) (S:=S) (t:=t) (ow:=ow) p W hW hrm.notes
 have hcy:=λW ow hW=>zfE K.fb S.last S.notes (by have:=hrm.last;omega) (t++ [16]) ow p W hW hrm.notes
 obtain⟨⟨l1,n1,id1,er⟩,hcp⟩:∃q,Zn S.last S.notes p=q:=⟨_,rfl⟩;obtain⟨⟨nid,nok⟩,hno⟩:∃q,XX S p=q:=⟨_,rfl⟩;rw [hcp] at hcy;rw [hno] at hnt;simp only at hcy hnt
 have hcw:Yw S p=if er≠0 then(S,er)else if(zJ nid S.hurt).isSome then({S with last:=l1,notes:=n1,hurt:=put id1 () S.hurt},0)else({S with last:=l1,notes:=n1},0):=by
  unfold Zn at hcp;unfold XX at hno;unfold Yw;have hl:=hrm.last
  by_cases h0:p<0
  ·rw [if_pos h0] at hcp hno⊢
   cases hcp;rfl
  ·rw [if_neg h0] at hcp hno⊢
   cases hx:S.notes[p.toNat]? with
   |none=>rw [hx] at hcp;cases hcp;rfl
   |some x=>
    obtain⟨i1,d1,s1⟩:=x;rw [hx] at hcp hno;simp only at hcp hno⊢;rw [zbN (by omega),hcp]
    cases hno
    rfl
 have hsame:er≠0->l1=S.last/\n1=S.notes:=by
  intro he;unfold Zn at hcp
  split at hcp
  ·cases hcp;exact⟨rfl,rfl⟩
  ·split at hcp
   ·cases hcp;exact⟨rfl,rfl⟩
   ·unfold jQ at hcp
    split at hcp
    ·cases hcp;exact⟨rfl,rfl⟩
    ·cases hcp;exact absurd rfl he
 obtain⟨R,hR⟩:∃R,Yw S p=R:=⟨_,rfl⟩;rw [hR] at hcw⊢;clear hR;replace hcp:=G hcp;replace hno:=G hno;replace hcw:=G hcw;replace hcy:=G hcy;replace hnt:=G hnt
 by_cases he:er=0
 ·subst he
  have hc2:=hcw.out;rw [if_neg (by simp)] at hc2;clear hsame
  have hlk:∀W,zU W K.hm Qw (S.hurt.map λq=>(q.1,yO))->(Instr.lookup 69 (.map (some K.hm)) (.int .u32 nid) true).run prog W=.ok (.tuple #[.agg #[],.bool (zJ nid S.hurt).isSome]) W:=λW hW=>by
   have hlk:=hW.lookup_ok YB Tryz.underlying69 (VF W) nid;have hlm:=vD (λ_:Unit=>yO) nid S.hurt;rw [hlm,Option.isSome_map,show((zJ nid S.hurt).map λ_=>yO).getD yO=yO by cases zJ nid S.hurt<;>rfl] at hlk;exact hlk
  cases hb:(zJ nid S.hurt).isSome with
  |false=>
   rw [hb] at hc2 hlk;rw [if_neg (by simp)] at hc2;replace hc2:=G hc2;replace hlk:=G hlk;replace hb:=G hb
   go_enter func58,ntmps58
   go_wp2_with fail
   refine(hnt.out _ hI).mono ?_;rintro e w1⟨rfl,hb1⟩;have hI1:=(zk.loc B K tv lp S t).cut hI hb1;have c1:=hI1.blk.cell;go_wp2_with fail
   refine(hcy.out _ _ hI1.flight).mono ?_;rintro e w2⟨rfl,ow2,hs2,hF2⟩;have hI2:=hI1.setFlight hs2 hF2;clear c1;have hlk2:=hlk.out _ hI2.hurtM.2;have c2:=hI2.blk.cell;go_wp2;go_ret
   exact⟨by rw [hc2.out];rfl,ow2,(zq.wrap hb1 (hs2.mono (Sub.child t 16))).trans (zq.of_below t _ (zg (N2 _ _) _)),by rw [hc2.out];exact⟨tv,lp,(zk.loc B K tv lp _ t).below hI2 (zg (N2 _ _) _)⟩⟩
  |true=>
   rw [hb] at hc2 hlk;rw [if_pos rfl] at hc2;replace hc2:=G hc2;replace hlk:=G hlk;replace hb:=G hb
   go_enter func58,ntmps58
   go_wp2_with fail
   refine(hnt.out _ hI).mono ?_;rintro e w1⟨rfl,hb1⟩;have hI1:=(zk.loc B K tv lp S t).cut hI hb1;have c1:=hI1.blk.cell;go_wp2_with fail
   refine(hcy.out _ _ hI1.flight).mono ?_;rintro e w2⟨rfl,ow2,hs2,hF2⟩;have hI2:=hI1.setFlight hs2 hF2;clear c1;have hlk2:=hlk.out _ hI2.hurtM.2;have hI3:=(zk.loc B K tv lp _ t).below hI2 (zg (N2 _ _) (.cells #[] 165));obtain⟨hho,hhm⟩:=hI3.hurtM;obtain⟨o,hup,hM3⟩:=hhm.update YB Tryz.underlying69 id1 yO;have hM3:zU ((w2.alloc (.cells #[] 165)).putObj K.hm o) K.hm Qw ((put id1 () S.hurt).map λq=>(q.1,yO)):=by have h3:=q9 (λ_:Unit=>yO) id1 () S.hurt;rw [← h3];exact hM3
   obtain⟨hs4,hI4⟩:=hI3.setHurt hM3;unfold Qw yO at hup;have c2:=hI2.blk.cell;have c3:=hI3.blk.cell;go_wp2;go_ret
   exact⟨by rw [hc2.out];rfl,ow2,((zq.wrap hb1 (hs2.mono (Sub.child t 16))).trans (zq.of_below t _ (zg (N2 _ _) _))).trans (hs4.mono (Sub.child t 18)),by rw [hc2.out];exact⟨tv,lp,hI4⟩⟩
 ·have t1:(er !=0)=true:=by simpa using he
  obtain⟨rfl,rfl⟩:=hsame he;have hc2:=hcw.out;rw [if_pos he] at hc2;replace hc2:=G hc2;clear he hsame
  go_enter func58,ntmps58
  go_wp2_with fail
  refine(hnt.out _ hI).mono ?_;rintro e w1⟨rfl,hb1⟩;have hI1:=(zk.loc B K tv lp S t).cut hI hb1;have c1:=hI1.blk.cell;go_wp2_with fail
  refine(hcy.out _ _ hI1.flight).mono ?_;rintro e w2⟨rfl,ow2,hs2,hF2⟩;have hI2:=hI1.setFlight hs2 hF2;clear c1;go_wp2;go_ret
  exact⟨by rw [hc2.out];rfl,ow2,zq.wrap hb1 (hs2.mono (Sub.child t 16)),by rw [hc2.out];exact⟨tv,lp,hI2⟩⟩
theorem zhF(B:Nat)(K:WK)(S:zj)(hrm:Xm S)(hlen:∀x∈S.notes,x.2.2.length<=1073741824)(t:List Nat)(ow:Own)(p bit:Int)(h63:bit<9223372036854775808)(mask:Nat)(hm:mask<4294967296)(w:World)(h:zy B K S t ow w):
 Calls prog 60 #[.pointer (some ⟨B,0,none⟩),.int .i64 p,.int .i64 bit,.int .u32 mask] w (vi B K (Jd S p bit mask).1 t ow w (.int .i64 (Jd S p bit mask).2)):=by
 obtain⟨tv,lp,hI⟩:=h;have hnt:=λW hW=>Xq (B:=B) (K:=K) (tv:=tv) (lp:=lp) (S:=S) (t:=t) (ow:=ow) p W hW hrm.notes
 have hht:=λW ow hW=>zfH K.fb S.last S.notes (t++ [16]) ow p bit h63 mask hm W hW hlen
 by_cases hp:0<=p/\p<S.notes.length
 ·obtain⟨⟨id,dst,str⟩,hx⟩:∃x,S.notes[p.toNat]?=some x:=⟨_,N3 (by omega)⟩
  obtain⟨e1, -⟩:=zat hp.1 hx;rw [e1] at hnt;obtain⟨⟨ch,er⟩,hch⟩:∃q,j9 str bit mask=q:=⟨_,rfl⟩
  have hhp:zbE S.notes p bit mask=if er=0 then(S.notes.set p.toNat (id,dst,ch),0)else(S.notes,er):=by
   unfold zbE;rw [if_neg (by omega),hx];simp only [hch]
  have hw:Jd S p bit mask=if(zJ id S.hurt).isSome then(S,180)else if er≠0 then(S,er)else({S with notes:=S.notes.set p.toNat (id,dst,ch),hurt:=put id () S.hurt},0):=by
   unfold Jd;rw [if_neg (by omega),hx];simp only [hch]
  rw [hhp] at hht;clear hhp hch hp;obtain⟨R,hR⟩:∃R,Jd S p bit mask=R:=⟨_,rfl⟩;rw [hR] at hw⊢;clear hR;simp only at hnt
  have hlk:∀W,zU W K.hm Qw (S.hurt.map λq=>(q.1,yO))->(Instr.lookup 69 (.map (some K.hm)) (.int .u32 id) true).run prog W=.ok (.tuple #[.agg #[],.bool (zJ id S.hurt).isSome]) W:=λW hW=>by
   have hlk:=hW.lookup_ok YB Tryz.underlying69 (VF W) id;have hlm:=vD (λ_:Unit=>yO) id S.hurt;rw [hlm,Option.isSome_map,show((zJ id S.hurt).map λ_=>yO).getD yO=yO by cases zJ id S.hurt<;>rfl] at hlk;exact hlk
  replace hnt:=G hnt;replace hx:=G hx;replace e1:=G e1
  cases hb:(zJ id S.hurt).isSome with
  |true=>
   rw [hb] at hw hlk;rw [if_pos rfl] at hw;replace hw:=G hw;replace hlk:=G hlk;replace hb:=G hb;replace hht:=G hht
   go_enter func60,ntmps60
   go_wp2_with fail
   refine(hnt.out _ hI).mono ?_;rintro e w1⟨rfl,hb1⟩;have hI1:=(zk.loc B K tv lp S t).cut hI hb1;have hlk2:=hlk.out _ hI1.hurtM.2;have c2:=hI1.blk.cell;go_wp2;go_ret
   exact⟨by rw [hw.out];rfl,_,zq.wrap (zg hb1 _) (zq.refl _ _ _),by rw [hw.out];exact⟨tv,lp,(zk.loc B K tv lp _ t).cut hI (zg hb1 _)⟩⟩
  |false=>
   rw [hb] at hw hlk;rw [if_neg (by simp)] at hw;replace hlk:=G hlk;replace hb:=G hb
   by_cases he:er=0
   ·subst he
    rw [if_pos rfl] at hht;rw [if_neg (by simp)] at hw;simp only at hht;replace hw:=G hw;replace hht:=G hht
    go_enter func60,ntmps60
    go_wp2_with fail
    refine(hnt.out _ hI).mono ?_;rintro e w1⟨rfl,hb1⟩;have hI1:=(zk.loc B K tv lp S t).cut hI hb1;have hlk2:=hlk.out _ hI1.hurtM.2;have c2:=hI1.blk.cell;have hb2:Below w.heap.size w (w1.alloc (.cells #[] 165)):=zg hb1 _;have hI2:=(zk.loc B K tv lp S t).cut hI hb2;have c22:=hI2.blk.cell;have l22:=hI1.blk.lt;go_wp2_with fail
    refine(hht.out _ _ hI2.flight).mono ?_;rintro e w3⟨rfl,ow3,hs3,hF3⟩;have hI3:=hI2.setFlight hs3 hF3;have hst3:zq t ow w ow3 w3:=zq.wrap hb2 (hs3.mono (Sub.child t 16));clear c2 hlk2 c22 l22;have c3:=hI3.blk.cell;obtain⟨hho,hhm⟩:=hI3.hurtM;obtain⟨o,hup,hM3⟩:=hhm.update YB Tryz.underlying69 id yO;have hM3:zU (w3.putObj K.hm o) K.hm Qw ((put id () S.hurt).map λq=>(q.1,yO)):=by have h3:=q9 (λ_:Unit=>yO) id () S.hurt;rw [← h3];exact hM3
    obtain⟨hs4,hI4⟩:=hI3.setHurt hM3;unfold Qw yO at hup;go_wp2;go_ret
    exact⟨by rw [hw.out];rfl,ow3,hst3.trans (hs4.mono (Sub.child t 18)),by rw [hw.out];exact⟨tv,lp,hI4⟩⟩
   ·have t1:(er==0)=false:=by simpa using he
    rw [if_neg he] at hht;rw [if_pos he] at hw;simp only at hht;clear he;replace hw:=G hw;replace hht:=G hht
    go_enter func60,ntmps60
    go_wp2_with fail
    refine(hnt.out _ hI).mono ?_;rintro e w1⟨rfl,hb1⟩;have hI1:=(zk.loc B K tv lp S t).cut hI hb1;have hlk2:=hlk.out _ hI1.hurtM.2;have c2:=hI1.blk.cell;have hb2:Below w.heap.size w (w1.alloc (.cells #[] 165)):=zg hb1 _;have hI2:=(zk.loc B K tv lp S t).cut hI hb2;have c22:=hI2.blk.cell;have l22:=hI1.blk.lt;go_wp2_with fail
    refine(hht.out _ _ hI2.flight).mono ?_;rintro e w3⟨rfl,ow3,hs3,hF3⟩;have hI3:=hI2.setFlight hs3 hF3;have hst3:zq t ow w ow3 w3:=zq.wrap hb2 (hs3.mono (Sub.child t 16));clear c2 hlk2 c22 l22;have c3:=hI3.blk.cell;go_wp2;go_ret
    exact⟨by rw [hw.out];rfl,ow3,hst3,by rw [hw.out];exact⟨tv,lp,hI3⟩⟩
 ·have hw:Jd S p bit mask=(S,2):=by
   unfold Jd
   by_cases h0:p<0
   ·rw [if_pos h0]
   ·rw [if_neg h0,List.getElem?_eq_none (by omega)]
  have hno:(XX S p).2=false:=by
   unfold XX
   by_cases h0:p<0
   ·rw [if_pos h0]
   ·rw [if_neg h0,List.getElem?_eq_none (by omega)]
  rw [hw];rw [hno] at hnt
  generalize(XX S p).1=nid at*
  replace hnt:=G hnt;replace hw:=G hw;clear hp hht hno
  go_enter func60,ntmps60
  go_wp2_with fail
  refine(hnt.out _ hI).mono ?_;rintro e w1⟨rfl,hb1⟩;have hI1:=(zk.loc B K tv lp S t).cut hI hb1;go_wp2;go_ret
  exact⟨rfl,_,zq.wrap hb1 (zq.refl _ _ _),tv,lp,hI1⟩
theorem zk.newLead {B:Nat}{K:WK}{tv:Value}{lp:Nat->Option Nat}{S:zj}{t:List Nat}{ow:Own}{W0 W:World}(h:zk B K tv lp S t ow W0)(hb:Below W0.heap.size W0 W){i lb:Nat}(hlb:W0.heap.size<=lb){l:qv}(hB:Blk W lb (zE (.slice none 0 0) l).toArray 152)(h1:l.promised.length=16)(h2:l.voted.length=16)(hp:l.promises=[])
 {ps:List (Int×Value)} {o:Obj} (hd:(ps.map (·.1)).Nodup) (hps:∀j:Nat,zJ (j:Int) ps=(lp j).map λb=>.pointer (some ⟨b,0,none⟩)) (hM:zU (W.putObj K.lm o) K.lm Yx (put (i:Int) (.pointer (some ⟨lb,0,none⟩)) ps)):
 ∃ow',zq t ow W0 ow' (W.putObj K.lm o)/\(∀k,W0.heap.size<=k->k≠lb->ow' k=[])/\zk B K tv (λj=>if j=i then some lb else lp j) {S with leads:=put (i:Int) l S.leads} t ow' (W.putObj K.lm o):=by
 obtain⟨hho,ps0, -,hM0, -⟩:=h.leadsM;have hlt:=hM0.lt;have hoL:(ow.ext W0.heap.size (λk=>k=lb) (t++ [i+32])) K.lm=t++ [17]:=(Own.ext_old hlt).trans hho;have hob:(ow.ext W0.heap.size (λk=>k=lb) (t++ [i+32])) lb=t++ [i+32]:=Own.ext_new hlb rfl;have hI1:zk B K tv lp S t (ow.ext W0.heap.size (λk=>k=lb) (t++ [i+32])) W:=zk.loc B K tv lp S t _ _ _ _ h hb.size (λk hk _=>⟨Own.ext_old hk,hb.block k hk⟩);have hst:zq (t++ [17]) (ow.ext W0.heap.size (λk=>k=lb) (t++ [i+32])) W (ow.ext W0.heap.size (λk=>k=lb) (t++ [i+32])) (W.putObj K.lm o):=zq.putObj W K.lm o (by rw [hoL];exact Sub.rfl' _);refine⟨ow.ext W0.heap.size (λk=>k=lb) (t++ [i+32]),⟨(Mod.of_below (λk=>Sub t (ow k)) hb).trans (Mod.putObj (X:=λk=>k=K.lm) W K.lm o rfl) (λ_ _ e=>e) (λk hk e=>by subst e;rw [hho];exact Sub.child t 17),λk hk=>Own.ext_old hk⟩,λk h1 h2=>Own.ext_none h1 h2,?_⟩;refine⟨hI1.blk.kept (hst.block hI1.blk.lt (qu t 17 hI1.own)),hI1.own,λj=>?_⟩
 by_cases hj:j=17
 ·subst hj
  refine⟨hoL,_,Xi _ _ hd,hM,λj=>?_⟩;rw [xz]
  by_cases hji:j=i
  ·subst hji;simp
  ·rw [if_neg (by omega),hps];simp only [if_neg hji]
 by_cases hji:j=i+32
 ·subst hji
  unfold vN;rw [if_neg (by omega),if_neg (by omega),if_neg (by omega),if_neg (by omega),if_neg (by omega),if_neg (by omega),if_neg (by omega),if_neg (by omega),if_neg (by omega),Nat.add_sub_cancel];simp only [if_true,xz];refine⟨h1,h2,.slice none 0 0,hB.kept (hst.block hB.lt (by rw [hob];exact Z9 t (i:=17) (j:=i+32) (by omega) rfl)),?_,hob,λg hg=>by cases hg⟩;rw [hp];exact zX _ _ _
 ·have hw:vN B K tv (λj=>if j=i then some lb else lp j) {S with leads:=put (i:Int) l S.leads} t j=vN B K tv lp S t j:=by
   unfold vN;simp only [if_neg hj]
   by_cases hj32:j<32
   ·simp only [if_pos hj32]
   ·simp only [if_neg (show¬j - 32=i by omega),xz,if_neg (show¬((j - 32:Nat):Int)=(i:Int)by omega)]
  rw [hw];exact(Zo B K tv lp S t j).step (hI1.part j) hst (zM t (Ne.symm hj))
def Vi(inst ballot:Nat)(value:List UInt8):qv:={inst:=inst,ballot:=ballot,value:=value,promises:=[],promised:=List.replicate 16 false,voted:=List.replicate 16 false,votes:=0,asked:=false,told:=false}
theorem zbW(B:Nat)(K:WK)(S:zj){v:Int}{k0 L:Nat}(hG:zr v k0 L S)(hL:L<=3000000000)(t:List Nat)(ht:t≠ [])(ow:Own)(i:Nat)(hi:i<S.nodes.length)(herr:(zt S i).loc.fold.eras.length<=536870912)(w:World)(h:zy B K S t ow w):
 Calls prog 52 #[.pointer (some ⟨B,0,none⟩),.int .i64 i] w (vi B K (yr S i).1 t ow w (.int .i64 (yr S i).2)):=by
 obtain⟨tv,lp,hI⟩:=h;have hi16:i<16:=by have:=hG.n0;omega
 obtain⟨b,hnb,px,sb,lb0,pb,av,hN⟩:=hI.node hi16 (m:=zt S i) (hG.node hi).1;have hNG:=(hG.node hi).2;have hc0:=hI.nodeCell hnb;have hbk:=hN.blk;have hdw:=λW hW=>qO (px:=px) (sb:=sb) (lb:=lb0) (pb:=pb) (av:=av) (n:=zt S i) (B:=b) W hW
 have c0:=hI.blk.cell;obtain⟨os0,ol0,hs0⟩:=hI.srow;have g0:=hs0.cellL (jt (hG.seat hi) (j:=0) (by decide));rw [Nat.add_zero] at g0;have y0:(0:Int)<=(i:Int):=by omega
 have y1:(i:Int)<(S.nodes.length:Int):=by omega
 have hnx:=λW=>zhA (jG S i).greatest i hi16 W
 obtain⟨⟨nb,ne⟩,hnbl⟩:∃q,jP (jG S i).greatest i=q:=⟨_,rfl⟩;rw [hnbl] at hnx;simp only at hnx;replace hdw:=G hdw;replace hnx:=G hnx
 cases hdd:(zt S i).down with
 |true=>
  have hpw:yr S i=(S,170):=by unfold yr;rw [if_pos hdd]
  rw [hpw];rw [hdd] at hdw;replace hpw:=G hpw;replace hdd:=G hdd
  go_enter func52,ntmps52
  go_wp2_with fail
  refine(hdw.out _ hbk).mono ?_;rintro e w1⟨rfl,rfl⟩;go_wp2;go_ret
  exact⟨rfl,ow,zq.refl _ _ _,tv,lp,hI⟩
 |false=>
  rw [hdd] at hdw
  by_cases he:ne=0
  ·subst he
   obtain⟨⟨pv,pok⟩,hpp⟩:∃q,yt (zt S i)=q:=⟨_,rfl⟩;have hpl:=J6 (zt S i)
   have hpw:yr S i=(vj {setSeat S i {jG S i with greatest:=nb} with leads:=put (i:Int) (Vi (vM (zt S i)) nb pv) S.leads} 3 i (vM (zt S i)) nb [],0):=by
    unfold yr;rw [if_neg (by rw [hdd];simp),hnbl,if_neg (by simp),hpp];rfl
   rw [hpw];rw [hpp] at hpl;simp only at hpl;have hpr:=λW hW=>JV (px:=px) (sb:=sb) (lb:=lb0) (pb:=pb) (av:=av) b (zt S i) (t++ [i]) ow W hW herr
   have hnn:=λW hW=>zbs (px:=px) (sb:=sb) (lb:=lb0) (pb:=pb) (av:=av) b (zt S i) (t++ [i]) (by simp) ow W hW hNG.ok.bounds.2.2.1 hNG.known
   rw [hpp] at hpr;unfold okV at hpr;obtain⟨nx,hnxe⟩:∃n,vM (zt S i)=n:=⟨_,rfl⟩;rw [hnxe] at hnn;rw [hnxe];replace hpr:=G hpr;replace hnn:=G hnn;replace hpw:=G hpw;replace hdd:=G hdd;replace hnxe:=G hnxe
   go_enter func52,ntmps52
   go_wp2_with fail
   refine(hdw.out _ hbk).mono ?_;rintro e w1⟨rfl,rfl⟩;go_wp2_with fail
   refine(hnx.out _).mono ?_;rintro e w1⟨rfl,rfl⟩;go_wp2_with fail
   refine(hpr.out _ hN).mono ?_;rintro e w2⟨rfl,hb2⟩;have hI2:=(zk.loc B K tv lp S t).below hI hb2;have c2:=hI2.blk.cell;have hc2:=hI2.nodeCell hnb;clear c0;go_wp2_with fail
   refine(hnn.out _ ((zx.loc _ _ _ _ _ _ _ _).below hN hb2)).mono ?_;rintro e w3⟨rfl,hb3⟩;have hb03:=zf hb2 hb3;have hI3:=(zk.loc B K tv lp S t).below hI hb03;clear c2 hc2;have c3:=hI3.blk.cell;have l3:=hI3.blk.lt;obtain⟨os3,ol3,hs3⟩:=hI3.srow;have g3:=hs3.cellL (jt (hG.seat hi) (j:=0) (by decide));rw [Nat.add_zero] at g3;have f3:=hs3.frozen;have ls3:=hs3.lt;obtain⟨hst5,hI5⟩:=hI3.setSeat (v:=.int .u64 (nb:Nat)) (s':={jG S i with greatest:=nb}) (hG.seat hi) (j:=0) (by decide) rfl;simp only [Nat.add_zero] at hst5 hI5;obtain⟨hho,ps,hd,hM4,hps⟩:=hI5.leadsM;have hlz:(w3.setCell ⟨K.sb,i*5,none⟩ (.int .u64 (nb:Nat))).heap.size=w3.heap.size:=by simp
   have hbA:Below (w3.setCell ⟨K.sb,i*5,none⟩ (.int .u64 (nb:Nat))).heap.size (w3.setCell ⟨K.sb,i*5,none⟩ (.int .u64 (nb:Nat))) ((w3.setCell ⟨K.sb,i*5,none⟩ (.int .u64 (nb:Nat))).alloc (.cells #[.int .i64 (nx:Nat),.int .u64 (nb:Nat),.string (bs pv),.slice none 0 0,.bool false,.bool false,.bool false,.bool false,.bool false,.bool false,.bool false,.bool false,.bool false,.bool false,.bool false,.bool false,.bool false,.bool false,.bool false,.bool false,.bool false,.bool false,.bool false,.bool false,.bool false,.bool false,.bool false,.bool false,.bool false,.bool false,.bool false,.bool false,.bool false,.bool false,.bool false,.bool false,.int .i64 0,.bool false,.bool false] 152)):=zg (N2 _ _) _;have kl:Blk ((w3.setCell ⟨K.sb,i*5,none⟩ (.int .u64 (nb:Nat))).alloc (.cells #[.int .i64 (nx:Nat),.int .u64 (nb:Nat),.string (bs pv),.slice none 0 0,.bool false,.bool false,.bool false,.bool false,.bool false,.bool false,.bool false,.bool false,.bool false,.bool false,.bool false,.bool false,.bool false,.bool false,.bool false,.bool false,.bool false,.bool false,.bool false,.bool false,.bool false,.bool false,.bool false,.bool false,.bool false,.bool false,.bool false,.bool false,.bool false,.bool false,.bool false,.bool false,.int .i64 0,.bool false,.bool false] 152)) w3.heap.size (zE (.slice none 0 0) (Vi nx nb pv)).toArray 152:=by rw [← hlz];exact Blk.new rfl
   have hM5:=hM4.kept (hbA.block K.lm hM4.lt);obtain⟨o,hup,hM6⟩:=hM5.update zam Tryz.underlying67 (i:Int) (.pointer (some ⟨w3.heap.size,0,none⟩));obtain⟨ow6,hst6, -,hI6⟩:=hI5.newLead (i:=i) (lb:=w3.heap.size) hbA (by omega) kl (by simp [Vi]) (by simp [Vi]) rfl hd hps hM6;unfold Yx at hup;have hst36:=hst5.mono (Sub.child t 21)|>.trans hst6
   have kl6:=kl.putObj (show w3.heap.size≠K.lm from λe=>by have:=hM4.lt;rw [hlz] at this;omega) o;replace hst6:=G hst6;replace hM6:=G hM6;replace hps:=G hps;have m0:=kl6.cellL (o:=0) (v:=.int .i64 (nx:Nat)) rfl;have m1:=kl6.cellL (o:=1) (v:=.int .u64 (nb:Nat)) rfl;have hsa:=Zr B K _ t ht ow6 3 i (by omega) hi16 nx nb (.slice none 0 0) [] _ ⟨tv,_,hI6⟩ (by have:=hG.room hL;exact⟨this.notes,this.last,this.n0⟩) ⟨rfl,.inl ⟨rfl,rfl⟩⟩ (by simp) (by simp) (λa l' c e=>by cases e);rw [show([]:List (List UInt8)).flatten=[] from rfl] at hsa;unfold xA at hsa;replace hsa:=G hsa;replace hI6:=G hI6;go_wp2_with fail
   refine hsa.out.mono ?_;rintro e w7⟨rfl,ow7,hs7,hW7⟩;go_wp2;go_ret
   exact⟨rfl,ow7,((zq.of_below t ow hb03).trans hst36).trans hs7,hW7⟩
  ·have hpw:yr S i=(S,ne):=by unfold yr;rw [if_neg (by rw [hdd];simp),hnbl,if_pos he]
   rw [hpw];have t1:(ne !=0)=true:=by simpa using he
   replace hpw:=G hpw;replace hdd:=G hdd;clear he
   go_enter func52,ntmps52
   go_wp2_with fail
   refine(hdw.out _ hbk).mono ?_;rintro e w1⟨rfl,rfl⟩;go_wp2_with fail
   refine(hnx.out _).mono ?_;rintro e w1⟨rfl,rfl⟩;go_wp2;go_ret
   exact⟨rfl,ow,zq.refl _ _ _,tv,lp,hI⟩
theorem zkW:Ju prog 27 36 5 48 (.agg #[.int .i64 0,.int .i64 0,.int .i64 0,.int .u32 0,.string ⟨#[]⟩]):=⟨Tryz.underlying27,by kernel_rfl,rfl,by decide,by decide⟩
theorem Zs(l:List zb8):∀u∈l.flatMap jr,u.oneCell'=true:=by
 intro u hu;obtain⟨m,_,hm⟩:=List.mem_flatMap.1 hu;simp only [jr,List.mem_cons,List.mem_nil_iff,or_false] at hm
 rcases hm with rfl|rfl|rfl|rfl|rfl<;>rfl
theorem zk.setTrace {B:Nat}{K:WK}{tv tv':Value}{lp:Nat->Option Nat}{S:zj}{t:List Nat}{ow:Own}{W W7:World}(h:zk B K tv lp S t ow W){tr:List zb8}
 (hrow:Row W7 36 5 tv' tr.length (tr.flatMap jr)) (hgr:W.grownBy W7 tv.ownBlock) (hown:tv'.ownBlock=tv.ownBlock∨tv'.ownBlock=some W.heap.size):
 ∃ow',zq t ow W ow' (W7.setCell ⟨B,6,none⟩ tv')/\(∀k,W.heap.size<=k->tv'.ownBlock≠some k->ow' k=[])/\zk B K tv' lp {S with trace:=tr} t ow' (W7.setCell ⟨B,6,none⟩ tv'):=by
 obtain⟨o22,hR⟩:=h.trow;have hneB:∀g,tv.ownBlock=some g->g≠B:=λg hg=>hR.ne_blk h.blk (by decide) hg
 have lB:=h.blk.lt
 have hg5:∀g,tv'.ownBlock=some g->(tv.ownBlock=some g∨g=W.heap.size):=λg hg=>by
  rw [hg] at hown
  rcases hown with h|h
  ·exact .inl h.symm
  ·right;simpa using h
 have k7:=h.blk.kept (w':=W7) (hgr.block B lB (λe=>hneB B e.symm rfl))
 have hneB':∀g,tv'.ownBlock=some g->g≠B:=λg hg e=>by
  rcases hg5 g hg with h1|h1
  ·exact hneB g h1 e
  ·omega
 have hst:zq t ow W (ow.ext W.heap.size (λk=>tv'.ownBlock=some k) (t++ [22])) (W7.setCell ⟨B,6,none⟩ tv'):=
  ⟨(Mod.grown (X:=λk=>Sub t (ow k)) hgr (λk h=>by rw [o22 k h];exact Sub.child t 22)).thenSet (p:=⟨B,6,none⟩) (by simp only [h.own];exact Sub.rfl' t) _,λk hk=>Own.ext_old hk⟩
 refine⟨ow.ext W.heap.size (λk=>tv'.ownBlock=some k) (t++ [22]),hst,λk h1 h2=>Own.ext_none h1 h2,k7.set tv',(Own.ext_old lB).trans h.own,λj=>?_⟩
 by_cases hj:j=22
 ·subst hj
  refine⟨λg hg=>?_,hrow.kept (λg hg=>N4 _ _ _ _ (λe=>hneB' g hg e))⟩
  rcases hg5 g hg with h1|h1
  ·rw [Own.ext_old (hR.lt h1),o22 g h1]
  ·rw [Own.ext_new (by omega) hg]
 ·have hw:vN B K tv' lp {S with trace:=tr} t j=vN B K tv lp S t j:=by
   unfold vN;simp only [if_neg hj]
  rw [hw];refine Zo B K tv lp S t j _ _ _ _ (h.part j) hst.size (λk hk hs=>⟨Own.ext_old hk,?_⟩);have hkB:k≠B:=λe=>by rw [e,h.own] at hs;exact zN t j hs
  rw [N4 _ _ _ _ hkB];refine hgr.block k hk (λe=>?_);rw [o22 k e.symm] at hs;exact(zM t hj).1 hs
def qV(S:zj)(kind at':Int)(told:Nat)(l:List zD)(i:Nat):zj:={S with trace:=S.trace++((l.drop told).take (i - told)).map λm=>(kind,at',m)}
theorem zdh(S:zj)(kind at':Int)(told:Nat)(l:List zD):qV S kind at' told l told=S:=by
 unfold qV;simp
theorem zfX(S:zj)(kind at':Int)(told:Nat)(l:List zD){i:Nat}(hj:l.length<=i):qV S kind at' told l i={S with trace:=S.trace++(l.drop told).map λm=>(kind,at',m)} :=by
 unfold qV;rw [List.take_of_length_le (by rw [U3];omega)]
theorem zdi(S:zj)(kind at':Int)(told:Nat)(l:List zD){i:Nat}(hi:told<=i){x:zD}(hx:l[i]?=some x):qV S kind at' told l (i+1)={qV S kind at' told l i with trace:=(qV S kind at' told l i).trace++ [(kind,at',x)] } :=by
 unfold qV;rw [show i+1 - told=(i - told)+1 by omega,List.take_add_one,List.getElem?_drop,show told+(i - told)=i by omega,hx];simp
theorem zfY(S:zj)(kind at':Int)(told:Nat)(l:List zD)(i:Nat):(qV S kind at' told l i).trace.length<=S.trace.length+l.length:=by
 unfold qV;simp only [N1,List.length_map,N7,U3];omega
theorem ziU(B:Nat)(K:WK)(S:zj)(t:List Nat)(ht:t≠ [])(ow:Own)(kind at':Int)(told:Nat)(l:List zD)(mv:Value)(w:World)(h:zy B K S t ow w)
 (hv:Src w mv 3 l.length (l.flatMap zh)) (hv0:∀a l c,mv=.slice (some a) l c->ow a.block=[]) (hl:S.trace.length+l.length<=1000000000) (htd:told<=1000000000):
 Calls prog 69 #[.pointer (some ⟨B,0,none⟩),.int .i64 kind,.int .i64 at',.int .i64 told,mv] w (vi B K {S with trace:=S.trace++(l.drop told).map λm=>(kind,at',m)} t ow w (.int .i64 (max told l.length:Nat))):=by
 obtain⟨va,vc,rfl⟩:∃a c,mv=.slice a l.length c:=by
  rcases hv.2 with⟨rfl,h0⟩|⟨b,off,cap,rfl, -⟩
  ·exact⟨none,0,by rw [h0]⟩
  ·exact⟨_,_,rfl⟩
 have hvn:∀a l' c,Value.slice va l.length vc=.slice (some a) l' c->¬Sub t (ow a.block):=λa l' c e=>by rw [hv0 a l' c e];exact zi ht
 replace hv:=G hv;replace hvn:=G hvn;clear hv0
 go_enter func69,ntmps69
 go_wp2
 go_loopw [3] (λp3 wr=>∃(i:Nat)(ow':Own),p3=.int .i64 (i:Nat)/\told<=i/\(i=told∨i<=l.length)/\zq t ow w ow' wr/\zy B K (qV S kind at' told l i) t ow' wr) (λp3 _=>told+l.length - (intOf p3).toNat)
 case atStart=>exact⟨told,ow,rfl,N0 _,.inl rfl,zq.refl _ _ _,by rw [zdh];exact h⟩
 case round=>
  obtain⟨i,ow',rfl,h1,h2,hst,hW⟩:=hrel;clear h
  by_cases hjN:i<l.length
  ·have t2:decide ((i:Int)<(l.length:Int))=true:=by simpa using hjN
   have y0:(0:Int)<=(i:Int):=by omega
   have y1:(i:Int)<(l.length:Int):=by omega
   have hwj:IntKind.i64.wrap ((i:Int)+1)=(i:Int)+1:=by rw [N8];omega
   obtain⟨⟨⟨xi,xc⟩,xd⟩,hx⟩:∃x,l[i]?=some x:=⟨_,N3 hjN⟩;have hvr:=hv.out.step hst (λa l' c e=>hvn.out a l' c e)
   obtain⟨b,off,rfl⟩:∃b off,va=some ⟨b,off,none⟩:=by
    rcases hvr.2 with⟨-,h0⟩|⟨b,off,cap,h0, -⟩
    ·omega
    ·cases h0;exact⟨_,_,rfl⟩
   obtain⟨c0,c1,c2⟩:=Z4 hvr hx;simp only at c0 c1 c2;obtain⟨tv,lp,hI⟩:=hW;have hlenS:=zfY S kind at' told l i;have hsucc:=zdi S kind at' told l h1 hx;obtain⟨S1,hS1⟩:∃S1,qV S kind at' told l i=S1:=⟨_,rfl⟩;rw [hS1] at hI hlenS hsucc;have cB:wr.cell? ⟨B,6,none⟩=some tv:=hI.blk.cell 6;obtain⟨o22,hR⟩:=hI.trow;obtain⟨ta,tc,rfl⟩:=hR.wideV.shape;have lB:=hI.blk.lt;replace hx:=G hx;replace hS1:=G hS1;replace hsucc:=G hsucc;replace hvr:=G hvr;replace hR:=G hR;replace o22:=G o22;replace hI:=G hI;have hlb:=jH c0;go_wp2_with fail
   refine zd [O 0,O 1,O 2,O 3,O 4,O 5,O 6,O 7,O 8,O 9,O 10,E 11,E 12,E 13,O 14,O 15,E 16] (some 16) (λw'=>w'.cell? ⟨B,6,none⟩=some (.slice ta S1.trace.length tc)/\w'.cell? ⟨b,off+i*3,none⟩=some (.int .i64 xi)/\w'.cell? ⟨b,off+i*3+1,none⟩=some (.int .u32 xc)/\w'.cell? ⟨b,off+i*3+2,none⟩=some (.string (bs xd))/\True) (by kernel_rfl) (by kernel_rfl) ⟨cB,c0,c1,c2,trivial⟩ ?_
   (repeat (refine za (v:=?_) rfl rfl (λw' h=>?_) (λK k=>?_);rotate_left;obtain⟨f1,f2,f3,f4,_⟩:=h;go_simp;(try with_reducible rfl);go_simp;refine k _ ?_;clear k K))
   refine zc rfl (λJ hJ=>?_);go_wp2;refine hJ.out _ _ (λ_=>⟨cB,c0,c1,c2,trivial⟩) ?_;clear hJ J;refine zc rfl (λJ hJ=>?_);go_wp2;refine hJ.out _ _ (λ_=>⟨jx (w:=wr) cB _,jx (w:=wr) c0 _,jx (w:=wr) c1 _,jx (w:=wr) c2 _,trivial⟩) ?_;clear hJ J;obtain⟨W5,hW5⟩:∃W5,W5=(wr.alloc (.cells #[.int .i64 kind,.int .i64 at',.int .i64 xi,.int .u32 xc,.string (bs xd)] 36)).drew:=⟨_,rfl⟩;have hb5:Below wr.heap.size wr W5:=by rw [hW5];exact zo (zg (N2 _ _) _)
   have k5:Blk W5 wr.heap.size #[.int .i64 kind,.int .i64 at',.int .i64 xi,.int .u32 xc,.string (bs xd)] 36:=by rw [hW5];exact(Blk.new rfl).drew
   have hsrc5:Src W5 (.slice (some ⟨wr.heap.size,0,none⟩) 1 1) 5 [((kind,at',(xi,xc),xd):zb8)].length ([((kind,at',(xi,xc),xd):zb8)].flatMap jr):=jB (n:=1) (size:=5) (cap:=1) k5 rfl (N0 1);rw [← hW5];clear hW5;have hI5:=(zk.loc B K _ lp _ t).cut hI.out hb5;obtain⟨pv',W7,hrun,hrow,hgr,hown⟩:=zI zkW (hR.out.below hb5) hsrc5 (Zs _) (by simp;omega) 27
   have hrow':Row W7 36 5 pv' (S1.trace++ [(kind,at',(xi,xc),xd)]).length ((S1.trace++ [(kind,at',(xi,xc),xd)]).flatMap jr):=by
    rw [N1,U5];exact hrow
   obtain⟨sa,sc,rfl⟩:=hrow'.wideV.shape;obtain⟨ow8,hs8,hfr8,hI8⟩:=hI5.setTrace hrow' hgr hown;simp only [N1,U2] at hs8 hI8;have cB5:W5.cell? ⟨B,6,none⟩=some (.slice ta S1.trace.length tc):=(hb5.cell lB).trans cB;have k7:=hI5.blk.kept (w':=W7) (hgr.block B hI5.blk.lt (λe=>(hI5.trow.2).ne_blk hI5.blk (by decide) e.symm rfl));have cB7:W7.cell? ⟨B,6,none⟩=some (.slice ta S1.trace.length tc):=k7.cell 6;have fB7:=k7.frozen;have lB7:=k7.lt;have hbw:=jH (Z4 hv.out hx.out).1
   have hneb:∀g,(Value.slice ta S1.trace.length tc).ownBlock=some g->g≠b:=λg hg e=>hvn.out ⟨b,off,none⟩ _ _ rfl (by
    have h1:=o22.out g hg;rw [e,hst.agree b hbw] at h1
    show Sub t (ow b)
    rw [h1];exact Sub.child t 22)
   have hb7:W7.heap[b]?=wr.heap[b]?:=(hgr.block b (by have:=hb5.size;have:=jH c0;simp at this;omega) (λe=>hneb b e.symm rfl)).trans (hb5.block b (by have:=jH c0;simpa using this));have d0:=(World.cell?_of_block (w:=wr) (w':=W7) (a:=⟨b,off+i*3,none⟩) hb7).trans c0;have d1:=(World.cell?_of_block (w:=wr) (w':=W7) (a:=⟨b,off+i*3+1,none⟩) hb7).trans c1;have d2:=(World.cell?_of_block (w:=wr) (w':=W7) (a:=⟨b,off+i*3+2,none⟩) hb7).trans c2;replace hrow':=G hrow';replace hrow:=G hrow;replace hgr:=G hgr;replace hown:=G hown;replace hI5:=G hI5;replace hI8:=G hI8;replace hs8:=G hs8;replace k7:=G k7;replace hneb:=G hneb;replace hfr8:=G hfr8;clear c0 c1 c2 cB cB5 hb7 hlb;refine zc rfl (λJ hJ=>?_);refine zu rfl _ _ _ rfl rfl rfl hrun ?_;unfold wpList;refine hJ.out _ _ (λ_=>⟨cB7,d0,d1,d2,trivial⟩) ?_;clear hJ J
   (repeat (refine za (v:=?_) rfl rfl (λw' h=>?_) (λK k=>?_);rotate_left;obtain⟨f1,f2,f3,f4,_⟩:=h;go_simp;(try with_reducible rfl);go_simp;refine k _ ?_;clear k K))
   refine zc rfl (λJ hJ=>?_);go_wp2;refine hJ.out _ _ (λhh=>absurd rfl hh) ?_;clear hJ J;refine ze ?_;go_wp2
   go_roundw
   case rel=>exact⟨i+1,ow8,by simp,by omega,by omega,hst.trans (zq.wrap hb5 hs8.out),by rw [hsucc.out];exact⟨_,_,hI8.out⟩⟩
   case measure=>simp [intOf];omega
  ·have t2:decide ((i:Int)<(l.length:Int))=false:=by simpa using hjN
   have hmx:max told l.length=i:=by omega
   go_wp2;go_ret
   exact⟨by rw [hmx];rfl,ow',hst,by rw [← zfX S kind at' told l (i:=i) (by omega)];exact hW⟩
