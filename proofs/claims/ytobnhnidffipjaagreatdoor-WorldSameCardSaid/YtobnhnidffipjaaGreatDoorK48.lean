/- PARTS OF THE PROOF. -/
import Derived.Test.YtobnhnidffipjaaGreatDoorK37
import Derived.Test.YtobnhnidffipjaaGreatDoorK47
set_option maxRecDepth 8000
set_option maxHeartbeats 4000000
open Go.Proofs.Tryz
namespace Go.Proofs.YtobnhnidffipjaaGreatDoor
section
open Go Go.RowKit Go.Shelf Go.Extern.Stop Go.Stop Go.Extern
attribute [local go_sem] Oper.semAt_some zw zm
variable {B:Nat}{K:WK}{tv:Value}{lp:Nat->Option Nat}{S:zl}{v:Int}{k0 L:Nat}{t:List Nat}{ow:Own}{w:World}
theorem ziT(l:List zu)(f:zu->Bool){k:Nat}{x:zu}(hx:l[k]?=some x):(l.take (k+1)).any f=((l.take k).any f||f x):=by
 rw [List.take_add_one,hx];simp
theorem Xt {i:Nat}(hi:i<S.nodes.length):S.nodes[i]?=some (zt S i):=by
 unfold zt;rw [N3 hi];rfl
theorem zed(hG:zr v k0 L S)(i:Nat)(hi:i<S.nodes.length)(h:zh B K tv lp S t ow w):
 Calls prog 44 #[.pointer (some ⟨B,0,none⟩),.int .i64 (i:Nat)] w λe w'=>e=.returned (.bool (zi8 S i))/\Below w.heap.size w w':=by
 have hn16:=hG.n0;have hB:=h.blk;have e0:=hB.cell;have l0:=hB.lt;have y0:(0:Int)<=(i:Int):=by omega
 have y1:(i:Int)<(S.nodes.length:Int):=by omega
 have hnx:∀j,j<S.nodes.length->∃b,K.nl[j]?=some b/\w.cell? ⟨K.nb,j,none⟩=some (.pointer (some ⟨b,0,none⟩))/\∀W,Below w.heap.size w W->Calls prog 76 #[.pointer (some ⟨b,0,none⟩)] W λe w'=>e=.returned (.int .i64 (vO (zt S j):Nat))/\Below W.heap.size W w':=by
  intro j hj;obtain⟨b,hnb,px,sb,lb,pb,av,hN⟩:=h.node (by omega) (hG.node hj).1;refine⟨b,hnb,h.nodeCell hnb,λW hW=>?_⟩;have hNG:=(hG.node hj).2;exact zbl (px:=px) (sb:=sb) (lb:=lb) (pb:=pb) (av:=av) b (zt S j) (t++ [j]) (by simp) ow W ((zx.loc _ _ _ _ _ _ _ _).below hN hW) hNG.ok.bounds.2.2.1 hNG.known
 obtain⟨b,hnb,hc0,hni⟩:=hnx i hi
 have hpr:∀W,Below w.heap.size w W->Calls prog 75 #[.pointer (some ⟨b,0,none⟩)] W λr w'=>r=.returned (okV (yt (zt S i)))/\Below W.heap.size W w':=by
  intro W hW;obtain⟨b',hnb',px,sb,lb,pb,av,hN⟩:=h.node (by omega) (hG.node hi).1;obtain rfl:b'=b:=by rw [hnb] at hnb';exact(Option.some.inj hnb').symm
  exact JZ (px:=px) (sb:=sb) (lb:=lb) (pb:=pb) (av:=av) b' (zt S i) (t++ [i]) ow W ((zx.loc _ _ _ _ _ _ _ _).below hN hW) (hG.eraLen hi)
 have hdu:zi8 S i=((yt (zt S i)).2||S.nodes.any λn=>decide (vO (zt S i)<vO n)):=rfl;obtain⟨⟨pv,pok⟩,hpp⟩:∃q,yt (zt S i)=q:=⟨_,rfl⟩;obtain⟨nx,hnxe⟩:∃n,vO (zt S i)=n:=⟨_,rfl⟩;rw [hpp] at hpr hdu;rw [hnxe] at hni hdu;unfold okV at hpr;simp only at hdu;rw [hdu];replace hpr:=G hpr;replace hni:=G hni;replace hnx:=G hnx;replace hpp:=G hpp;replace hnxe:=G hnxe;replace hdu:=G hdu;replace hnb:=G hnb;clear h
 cases pok with
 |true=>
  go_enter func44,ntmps44
  go_wp2_with fail
  refine(hpr.out _ (N2 _ _)).mono ?_;rintro e w1⟨rfl,hb1⟩;go_wp2;go_ret
  exact⟨rfl,hb1⟩
 |false=>
  simp only [Bool.false_or]
  go_enter func44,ntmps44
  go_wp2_with fail
  refine(hpr.out _ (N2 _ _)).mono ?_;rintro e w1⟨rfl,hb1⟩;have e1:=(hB.call hb1).cell;have c1:w1.cell? ⟨K.nb,i,none⟩=some (.pointer (some ⟨b,0,none⟩)):=(hb1.cell (jw hc0)).trans hc0;clear e0;go_wp2_with fail
  refine(hni.out _ hb1).mono ?_;rintro e w2⟨rfl,hb2⟩;have hb02:=ze hb1 hb2;have e2:=(hB.call hb02).cell;clear e1 c1;go_wp2
  go_loopw [35] (λp35 wr=>∃j:Nat,p35=.int .i64 (j:Nat)/\j<=S.nodes.length/\Below w.heap.size w wr/\(S.nodes.take j).any (λn=>decide (nx<vO n))=false) (λp35 _=>S.nodes.length - (intOf p35).toNat)
  case atStart=>exact⟨0,rfl,Nat.zero_le _,hb02,by simp⟩
  case round=>
   obtain⟨j,rfl,hj,hbr,hno⟩:=hrel;clear e2
   by_cases hjN:j<S.nodes.length
   ·have t2:decide ((j:Int)<(S.nodes.length:Int))=true:=by simpa using hjN
    have y2:(0:Int)<=(j:Int):=by omega
    have y3:(j:Int)<(S.nodes.length:Int):=by omega
    have hwj:IntKind.i64.wrap ((j:Int)+1)=(j:Int)+1:=by rw [N8];omega
    obtain⟨bj, -,hcj,hnj⟩:=hnx.out j hjN;have cj:wr.cell? ⟨K.nb,j,none⟩=some (.pointer (some ⟨bj,0,none⟩)):=(hbr.cell (jw hcj)).trans hcj;have htk:=ziT S.nodes (λn=>decide (nx<vO n)) (Xt hjN);rw [hno,Bool.false_or] at htk;replace hnj:=G hnj;replace hno:=G hno
    cases hlt:decide (nx<vO (zt S j))with
    |true=>
     have t4:decide ((nx:Int)<(vO (zt S j):Int))=true:=by simpa using hlt
     have hall:S.nodes.any (λn=>decide (nx<vO n))=true:=List.any_eq_true.2 ⟨_,List.mem_of_getElem? (Xt hjN),hlt⟩;replace htk:=G htk;replace hall:=G hall;go_wp2_with fail
     refine(hnj.out _ hbr).mono ?_;rintro e w3⟨rfl,hb3⟩;go_wp2;go_ret
     exact⟨by rw [hall.out];rfl,ze hbr hb3⟩
    |false=>
     have t4:decide ((nx:Int)<(vO (zt S j):Int))=false:=by simpa using hlt
     rw [hlt] at htk;replace htk:=G htk;go_wp2_with fail
     refine(hnj.out _ hbr).mono ?_;rintro e w3⟨rfl,hb3⟩;go_wp2
     go_roundw
     case rel=>exact⟨j+1,by simp,by omega,ze hbr hb3,htk.out⟩
     case measure=>simp [intOf];omega
   ·obtain rfl:j=S.nodes.length:=by omega
    have t2:decide ((S.nodes.length:Int)<(S.nodes.length:Int))=false:=by simp
    rw [List.take_length] at hno;replace hno:=G hno;go_wp2;go_ret
    exact⟨by rw [hno.out];rfl,hbr⟩
def zhC(S:zl)(i:Nat):Bool:= !(zt S i).down && !zi8 S i
theorem XV(f:Nat->Bool)(j:Nat):(List.range (j+1)).all f=((List.range j).all f && f j):=by
 rw [List.range_succ];simp
theorem Xu(f:Nat->Bool){n j:Nat}(hj:j<n)(h:f j=false):(List.range n).all f=false:=by
 rw [List.all_eq_false];exact⟨j,List.mem_range.2 hj,by simp [h]⟩
theorem zfU(hG:zr v k0 L S)(h:zh B K tv lp S t ow w):
 Calls prog 29 #[.pointer (some ⟨B,0,none⟩)] w λe w'=>e=.returned (.bool (ZY S))/\Below w.heap.size w w':=by
 have hn16:=hG.n0;have hB:=h.blk;have e0:=hB.cell;have hfl:=yk w h hG.notesN
 have hdn:∀j,j<S.nodes.length->∃b,w.cell? ⟨K.nb,j,none⟩=some (.pointer (some ⟨b,0,none⟩))/\∀W,Below w.heap.size w W->Calls prog 43 #[.pointer (some ⟨b,0,none⟩)] W λe w'=>e=.returned (.bool (zt S j).down)/\w'=W:=by
  intro j hj;obtain⟨b,hnb,px,sb,lb,pb,av,hN⟩:=h.node (by omega) (hG.node hj).1;exact⟨b,h.nodeCell hnb,λW hW=>qV (px:=px) (sb:=sb) (lb:=lb) (pb:=pb) (av:=av) (n:=zt S j) (B:=b) W (hN.blk.call hW)⟩
 have hdu:=λ(j:Nat) hj W (hW:Below w.heap.size w W)=>zed hG j hj ((zh.loc B K tv lp S t).below h hW)
 have hrs:ZY S=(S.notes.isEmpty &&(List.range S.nodes.length).all (zhC S)):=rfl;rw [hrs];obtain⟨eb,heb⟩:∃b,S.notes.isEmpty=b:=⟨_,rfl⟩
 have t0:((S.notes.length:Int)==0)=eb:=by
  rw [← heb]
  cases S.notes with
  |nil=>rfl
  |cons x l=>simp;omega
 rw [heb];replace hfl:=G hfl;replace hdn:=G hdn;replace hdu:=G hdu;replace hrs:=G hrs;replace heb:=G heb;clear h;refine zk func29 rfl ?_;simp only [ntmps29,R8,Nat.reduceAdd,Nat.reduceSub];go_wp2;go_step3;go_wp2_with fail
 refine hfl.out.mono ?_;rintro e w1⟨rfl,hb1⟩;go_wp2;go_step3;have e1:=(hB.call hb1).cell;clear e0;go_wp2
 go_loopw [14,3] (λp14 p3 wr=>∃j:Nat,p14=.int .i64 (j:Nat)/\p3=.bool eb/\j<=S.nodes.length/\Below w.heap.size w wr/\(List.range j).all (zhC S)=true) (λp14 _ _=>S.nodes.length - (intOf p14).toNat)
 case atStart=>exact⟨0,rfl,rfl,Nat.zero_le _,hb1,by simp⟩
 case round=>
  obtain⟨j,rfl,rfl,hj,hbr,hall⟩:=hrel;clear e1
  by_cases hjN:j<S.nodes.length
  ·have t2:decide ((j:Int)<(S.nodes.length:Int))=true:=by simpa using hjN
   have y2:(0:Int)<=(j:Int):=by omega
   have y3:(j:Int)<(S.nodes.length:Int):=by omega
   have hwj:IntKind.i64.wrap ((j:Int)+1)=(j:Int)+1:=by rw [N8];omega
   obtain⟨bj,hcj,hdj⟩:=hdn.out j hjN;have cj:wr.cell? ⟨K.nb,j,none⟩=some (.pointer (some ⟨bj,0,none⟩)):=(hbr.cell (jw hcj)).trans hcj;have htk:=XV (zhC S) j;rw [hall,Bool.true_and] at htk;have hne:=Xu (zhC S) hjN;have hcw:zhC S j=(!(zt S j).down && !zi8 S j):=rfl;replace hdj:=G hdj;replace hall:=G hall
   cases hd:(zt S j).down with
   |true=>
    have hne:=hne (by rw [hcw,hd];rfl);rw [hd] at hdj;replace hne:=G hne;replace htk:=G htk;replace hcw:=G hcw;replace hd:=G hd;go_wp2_with fail
    refine(hdj.out _ hbr).mono ?_;rintro e w3⟨rfl,hw3⟩;obtain rfl:=hw3.symm;go_wp2;rw [Exit.noGoto_ret];exact jh (v:=.bool false) (by simp [results,Tryz.results29,go_sem]) ⟨by rw [hne.out];simp,hbr⟩
   |false=>
    rw [hd] at hdj
    cases hu:zi8 S j with
    |true=>
     have hne:=hne (by rw [hcw,hd,hu];rfl);have hdu2:=hdu.out j hjN _ hbr;rw [hu] at hdu2;replace hdu2:=G hdu2;replace hne:=G hne;replace htk:=G htk;replace hcw:=G hcw;replace hd:=G hd;replace hu:=G hu;go_wp2_with fail
     refine(hdj.out _ hbr).mono ?_;rintro e w3⟨rfl,hw3⟩;obtain rfl:=hw3.symm;go_wp2_with fail
     refine hdu2.out.mono ?_;rintro e w3⟨rfl,hb3⟩;go_wp2;rw [Exit.noGoto_ret];exact jh (v:=.bool false) (by simp [results,Tryz.results29,go_sem]) ⟨by rw [hne.out];simp,ze hbr hb3⟩
    |false=>
     rw [hcw,hd,hu] at htk;have hdu2:=hdu.out j hjN _ hbr;rw [hu] at hdu2;replace hdu2:=G hdu2;replace htk:=G htk;replace hcw:=G hcw;replace hd:=G hd;replace hu:=G hu;go_wp2_with fail
     refine(hdj.out _ hbr).mono ?_;rintro e w3⟨rfl,hw3⟩;obtain rfl:=hw3.symm;go_wp2_with fail
     refine hdu2.out.mono ?_;rintro e w3⟨rfl,hb3⟩;go_wp2
     go_roundw
     case rel=>exact⟨j+1,by simp,rfl,by omega,ze hbr hb3,htk.out⟩
     case measure=>simp [intOf];omega
  ·obtain rfl:j=S.nodes.length:=by omega
   have t2:decide ((S.nodes.length:Int)<(S.nodes.length:Int))=false:=by simp
   replace hall:=G hall;go_wp2;rw [Exit.noGoto_ret];exact jh (v:=.bool eb) (by simp [results,Tryz.results29,go_sem]) ⟨by rw [hall.out];simp,hbr⟩
end
section
open Go
abbrev ZZ:=Nat×Nat
def j1(S:zl)(p:ZZ):Option ZZ:=
 if p.1=0 then(if p.2<S.nodes.length then(if(zt S p.2).down then none else some (0,p.2+1))else some (1,0))
 else if p.1=1 then(if p.2<S.nodes.length then(if zi8 S p.2 then none else some (2,p.2))else none)
 else(if S.notes.length=0 then some (1,p.2+1)else none)
def zjS(S:zl)(p:ZZ):Prop:=p.1=1/\S.nodes.length<=p.2
def zao(p:ZZ):OpD:=if p.1=0 then⟨9,p.2,0,0,0,[]⟩else if p.1=1 then⟨2,p.2,0,0,0,[]⟩else⟨3,0,0,0,0,[]⟩
def zhD(p:ZZ):ZZ:=if p.1=0 then(0,p.2+1)else(2,p.2)
inductive XW(S:zl):ZZ->ZZ->Prop
 |refl (p):XW S p p
 |step {p q r} :j1 S p=some q->XW S q r->XW S p r
def ziU(S:zl)(q:ZZ):Prop:=j1 S q=none/\¬zjS S q
theorem XW.snoc {S:zl}{p q r:ZZ}(h:XW S p q)(h2:j1 S q=some r):XW S p r:=by
 induction h with
 |refl=>exact .step h2 (.refl _)
 |step h1 _ ih=>exact .step h1 (ih h2)
theorem XW.det {S:zl}{p q r:ZZ}(h:XW S p q)(h2:XW S p r)(hq:j1 S q=none)(hr:j1 S r=none):q=r:=by
 induction h with
 |refl=>
  cases h2 with
  |refl=>rfl
  |step h3 _=>rw [hq] at h3;cases h3
 |step h1 _ ih=>
  cases h2 with
  |refl=>rw [hr] at h1;cases h1
  |step h3 h4=>rw [h1] at h3;cases h3;exact ih h4 hq
theorem zjS.none {S:zl}{q:ZZ}(h:zjS S q):j1 S q=none:=by
 unfold zjS at h;unfold j1;rw [if_neg (by omega),if_pos h.1,if_neg (by omega)]
inductive ZP(s:StD):Nat->ZZ->zl->zl->Prop
 |done {p q S} :XW S p q->zjS S q->ZP s 0 p S S
 |step {p q S S' f} :XW S p q->ziU S q->ZP s f (zhD q) (doW s S (zao q)).1 S'->ZP s (f+1) p S S'
theorem ZP.next {s:StD}{f:Nat}{p q:ZZ}{S S':zl}(h:ZP s f p S S')(hs:XW S p q)(hy:ziU S q):∃g,f=g+1/\ZP s g (zhD q) (doW s S (zao q)).1 S':=by
 cases h with
 |done h1 h2=>exact absurd (by rw [hs.det h1 hy.1 h2.none];exact h2) hy.2
 |step h1 h2 h3=>rw [hs.det h1 hy.1 h2.1];exact⟨_,rfl,h3⟩
theorem ZP.fin {s:StD}{f:Nat}{p q:ZZ}{S S':zl}(h:ZP s f p S S')(hs:XW S p q)(he:zjS S q):f=0/\S'=S:=by
 cases h with
 |done h1 h2=>exact⟨rfl,rfl⟩
 |step h1 h2 h3=>exact absurd (by rw [← hs.det h1 he.none h2.1];exact he) h2.2
inductive Xv(s:StD):Nat->Nat->zl->zl->Bool->Prop
 |none {S} :Xv s 0 0 S S (ZY S)
 |rests {r S} :ZY S=true->Xv s (r+1) 0 S S true
 |round {r f g S S1 S' b} :ZY S=false->ZP s f (0,0) S S1->Xv s r g S1 S' b->Xv s (r+1) (f+g) S S' b
def ziV(S:zl):Nat->ZZ->ZZ
 |0,p=>p
 |n+1,p=>match j1 S p with|none=>p|some q=>ziV S n q
theorem zdk(S:zl):∀(n:Nat)(p:ZZ),XW S p (ziV S n p)
 |0,p=>.refl p
 |n+1,p=>by
  unfold ziV
  cases h:j1 S p with
  |none=>exact .refl p
  |some q=>exact .step h (zdk S n q)
def zks(s:StD):Nat->ZZ->zl->Option zl
 |0,_,_=>none
 |n+1,p,S=>
  if(j1 S (ziV S 100 p)).isSome then none
  else if(ziV S 100 p).1=1/\S.nodes.length<=(ziV S 100 p).2 then some S
  else zks s n (zhD (ziV S 100 p)) (doW s S (zao (ziV S 100 p))).1
theorem zhE(s:StD):∀(n:Nat)(p:ZZ)(S S':zl),zks s n p S=some S'->∃f,f<=n/\ZP s f p S S'
 |0,_,_,_,h=>by cases h
 |n+1,p,S,S',h=>by
  unfold zks at h
  split at h
  ·cases h
  ·rename_i h1
   have h1':j1 S (ziV S 100 p)=none:=by simpa using h1
   split at h
   ·rename_i h2
    cases h
    exact⟨0,Nat.zero_le _,.done (zdk S 100 p) h2⟩
   ·rename_i h2
    obtain⟨f,hf,hr⟩:=zhE s n _ _ _ h;exact⟨f+1,by omega,.step (zdk S 100 p) ⟨h1',h2⟩ hr⟩
def zfV(s:StD)(m:Nat):Nat->zl->Option (zl×Bool)
 |0,S=>some (S,ZY S)
 |r+1,S=>if ZY S then some (S,true)else match zks s m (0,0) S with|none=>none|some S1=>zfV s m r S1
theorem zee(s:StD)(m:Nat):∀(r:Nat)(S S':zl)(b:Bool),zfV s m r S=some (S',b)->∃f,f<=r*m/\Xv s r f S S' b
 |0,S,S',b,h=>by
  unfold zfV at h
  cases h
  exact⟨0,by simp,.none⟩
 |r+1,S,S',b,h=>by
  unfold zfV at h
  split at h
  ·rename_i h1
   cases h
   exact⟨0,Nat.zero_le _,.rests h1⟩
  ·rename_i h1
   split at h
   ·cases h
   ·rename_i S1 h2
    obtain⟨f,hf,hr⟩:=zhE s m _ _ _ h2;obtain⟨g,hg,hr2⟩:=zee s m r _ _ _ h;exact⟨f+g,by rw [Nat.add_mul];omega,.round (by simpa using h1) hr hr2⟩
theorem ziW {p:Nat->Prop} :∀n,p n->∃m,p m/\∀k,p k->m<=k:=by
 intro n
 induction n using Nat.strongRecOn with
 |_ n ih=>
  intro hn
  by_cases h:∃k,k<n/\p k
  ·obtain⟨k,hk,hp⟩:=h
   exact ih k hk hp
  ·exact⟨n,hn,λk hk=>by
    rcases Nat.lt_or_ge k n with h1|h1
    ·exact absurd ⟨k,h1,hk⟩ h
    ·exact h1⟩
noncomputable def least(p:Nat->Prop):Nat:=open Classical in if h:∃m,p m/\∀k,p k->m<=k then h.choose else 0
theorem ZN {p:Nat->Prop}(h:∃n,p n):p (least p)/\∀k,p k->least p<=k:=by
 obtain⟨n,hn⟩:=h;have h2:=ziW n hn;unfold least;rw [dif_pos h2];exact h2.choose_spec
end
open Go Go.RowKit Go.Shelf Go.Extern.Stop Go.Stop Go.Extern
attribute [local go_sem] Oper.semAt_some zw zm
theorem zfW(B:Nat)(w:World):Calls prog 30 #[.pointer (some ⟨B,0,none⟩)] w λe w'=>
 e=.returned (.func (.func 45) #[] #[.pointer (some ⟨w.heap.size,0,none⟩)])/\w'=w.alloc (.cells #[.pointer (some ⟨B,0,none⟩)] 24):=by
 go_enter func30,ntmps30
 go_wp2;go_ret
 exact⟨rfl,rfl⟩
theorem zjT(i:Nat):opV (zao (0,i))=.agg #[.int .i64 9,.int .i64 (i:Nat),.int .i64 0,.int .i64 0,.int .u32 0,.string ⟨#[]⟩]:=rfl
theorem zjU(i:Nat):opV (zao (1,i))=.agg #[.int .i64 2,.int .i64 (i:Nat),.int .i64 0,.int .i64 0,.int .u32 0,.string ⟨#[]⟩]:=rfl
theorem zhF(i:Nat):opV (zao (2,i))=.agg #[.int .i64 3,.int .i64 0,.int .i64 0,.int .i64 0,.int .u32 0,.string ⟨#[]⟩]:=rfl
def Z0(J:(ZZ×zl)->(Nat->Prop)->World->Prop)(s:StD)(i f:Nat)(wr:World):Prop:=∃σ X S',J σ X wr/\XW σ.2 σ.1 (2,i)/\ZP s f σ.1 σ.2 S'
def zjV(s:StD)(v:Int)(qb B:Nat)(K:WK)(N:Nat)(t:List Nat)(σ:ZZ×zl)(W:World):Prop:=
 Blk W qb #[.pointer (some ⟨B,0,none⟩)] 24/\σ.2.nodes.length=N/\(∃ow,zy B K σ.2 t ow W)/\(∃k L,zr v k L σ.2)/\∃f S',ZP s f σ.1 σ.2 S'
theorem zfX(s:StD)(v:Int)(qb B:Nat)(K:WK)(N:Nat)(hN16:N<=16)(t:List Nat)(S0:zl):
 XA Fence.wide 2 prog 45 #[.pointer (some ⟨qb,0,none⟩)] (λq:ZZ=> #[opV (zao q)])
  (λ(σ:ZZ×zl) q=>XW σ.2 σ.1 q/\ziU σ.2 q) (λσ q=>(zhD q,(doW s σ.2 (zao q)).1)) (λσ=>∃q,XW σ.2 σ.1 q/\zjS σ.2 q)
  (zjV s v qb B K N t) ((0,0),S0):=by
 intro lp J Jx W hJ hJx hRd hY h0;obtain⟨kq0,hN0,⟨ow0,tv0,lw0,hI0⟩, -, -⟩:=hRd _ _ _ h0;have e0:=kq0.cell;have eB:=hI0.blk.cell;simp only at hN0;rw [hN0] at eB;have hF:Fence.wide.fn 45:=trivial;have hro:Fence.wide.round=none:=rfl;replace hI0:=G hI0;replace hY:∀σ q X W,J σ X W->XW σ.2 σ.1 q/\ziU σ.2 q->_:=hY;refine callsIn_of_wp func45 rfl hF ?_ hro;simp only [ntmps45,R8,Nat.reduceAdd,Nat.reduceSub]
 gi_wp2
 gi_loopw [11] (λp11 wr=>∃(i:Nat)(σ:ZZ×zl)(X:Nat->Prop),p11=.int .i64 (i:Nat)/\i<=N/\J σ X wr/\XW σ.2 σ.1 (0,i)) (λp11 _=>N - (intOf p11).toNat)
 case atStart=>exact⟨0,_,_,rfl,Nat.zero_le _,h0,.refl _⟩
 case round=>
  obtain⟨i,σ,X,rfl,hi,hJs,hsil⟩:=hrel;clear e0 eB h0 kq0;obtain⟨kq,hN,⟨ow,tv,lw,hI⟩,⟨k,L,hG⟩,hrun⟩:=hRd _ _ _ hJs;have eq:=kq.cell;have eB:=hI.blk.cell;rw [hN] at eB
  by_cases hiN:i<N
  ·have t2:decide ((i:Int)<(N:Int))=true:=by simpa using hiN
   have y0:(0:Int)<=(i:Int):=by omega
   have y1:(i:Int)<(N:Int):=by omega
   have hwi:IntKind.i64.wrap ((i:Int)+1)=(i:Int)+1:=by rw [N8];omega
   obtain⟨b,hnb,px,sb,lb,pb,av,hNd⟩:=hI.node (by omega) (hG.node (i:=i) (by omega)).1;have hnc:=hI.nodeCell hnb;have hdw:=qV (px:=px) (sb:=sb) (lb:=lb) (pb:=pb) (av:=av) (n:=zt σ.2 i) (B:=b) _ hNd.blk;replace hI:=G hI;replace hG:=G hG;replace hNd:=G hNd;replace hnb:=G hnb
   cases hd:(zt σ.2 i).down with
   |true=>
    rw [hd] at hdw;have hyl:ziU σ.2 (0,i):=⟨by unfold j1;rw [if_pos rfl,if_pos (by simp only;omega),if_pos hd],λh=>by cases h.1⟩;obtain⟨fn,tmps,assign,body,hy,hR⟩:=hY σ (0,i) X wr hJs ⟨hsil,hyl⟩;simp only [zjT] at hy hR;replace hdw:=G hdw;replace hd:=G hd
    gi_wp2_with fail
    refine(callsIn_wide.2 hdw.out).mono ?_;rintro e w3⟨rfl,hw3⟩;obtain rfl:=hw3.symm
    gi_wp2
    refine hR.mono ?_;rintro e W'(⟨rfl,hJ', -⟩|⟨rfl,hx'⟩)
    ·clear hR hy
     gi_wp2
     go_roundw
     case rel=>exact⟨i+1,_,X,by simp,by omega,hJ',.refl _⟩
     case measure=>simp [intOf];omega
    ·skip
     gi_wp2
     refine bodyPost_ret (results_none rfl _ _ _) rfl ?_;exact⟨⟨_,rfl⟩,.inr ⟨_,hx'⟩⟩
   |false=>
    rw [hd] at hdw;have hsl:j1 σ.2 (0,i)=some (0,i+1):=by unfold j1;rw [if_pos rfl,if_pos (by simp only;omega),if_neg (by simp only [hd];simp)]
    replace hdw:=G hdw;replace hd:=G hd
    gi_wp2_with fail
    refine(callsIn_wide.2 hdw.out).mono ?_;rintro e w3⟨rfl,hw3⟩;obtain rfl:=hw3.symm
    gi_wp2
    go_roundw
    case rel=>exact⟨i+1,σ,X,by simp,by omega,hJs,hsil.snoc hsl⟩
    case measure=>simp [intOf];omega
  ·obtain rfl:N=i:=by omega
   have t2:decide ((N:Int)<(N:Int))=false:=by simp
   have hsl:j1 σ.2 (0,N)=some (1,0):=by unfold j1;rw [if_pos rfl,if_neg (by simp only;omega)]
   replace hI:=G hI;replace hG:=G hG
   gi_wp2
   gi_loopw [31] (λp31 wr=>∃(i:Nat)(σ:ZZ×zl)(X:Nat->Prop),p31=.int .i64 (i:Nat)/\i<=N/\J σ X wr/\XW σ.2 σ.1 (1,i)) (λp31 _=>N - (intOf p31).toNat)
   case atStart=>exact⟨0,σ,X,rfl,Nat.zero_le _,hJs,hsil.snoc hsl⟩
   case round=>
    clear eB eq hsil hsl hJs kq hN hI hG hrun hi hiN t2;obtain⟨i,σ,X,rfl,hi,hJs,hsil⟩:=hrel;obtain⟨kq,hN,⟨ow,tv,lw,hI⟩,⟨k,L,hG⟩,hrun⟩:=hRd _ _ _ hJs;have eq:=kq.cell
    by_cases hiN:i<N
    ·have t2:decide ((i:Int)<(N:Int))=true:=by simpa using hiN
     have hwi:IntKind.i64.wrap ((i:Int)+1)=(i:Int)+1:=by rw [N8];omega
     have hdu:=zed hG i (by omega) hI;replace hI:=G hI;replace hG:=G hG
     cases hd:zi8 σ.2 i with
     |true=>
      rw [hd] at hdu;have hyl:ziU σ.2 (1,i):=⟨by unfold j1;rw [if_neg (by simp),if_pos rfl,if_pos (by simp only;omega),if_pos hd],λh=>by have:=h.2;simp only at this;omega⟩;obtain⟨f0,S',hrun⟩:=hrun;obtain⟨g0, -,hrun2⟩:=hrun.next hsil hyl;replace hrun:=G hrun;replace hrun2:=G hrun2;replace hdu:=G hdu;replace hd:=G hd
      gi_wp2_with fail
      refine(callsIn_wide.2 hdu.out).mono ?_;rintro e w3⟨rfl,hb3⟩;have hJ3:J σ X w3:=hJ _ _ _ _ _ hJs (Mod.of_below X hb3) (λk h=>.inl h);obtain⟨fn,tmps,assign,body,hy,hR⟩:=hY σ (1,i) X w3 hJ3 ⟨hsil,hyl⟩;simp only [zjU] at hy hR
      gi_wp2
      refine hR.mono ?_;rintro e W'(⟨rfl,hJ', -⟩|⟨rfl,hx'⟩)
      ·clear hR hy
       have hD0:Z0 J s i g0 W':=⟨_,X,S',hJ',.refl _,hrun2.out⟩;clear hrun2 hrun eq hJs hJ3 hsil kq hN hJ'
       gi_wp2
       gi_loopw [] (λwr=>∃f,Z0 J s i f wr) (λwr=>least (λf=>Z0 J s i f wr))
       case atStart=>exact⟨g0,hD0⟩
       case round=>
        obtain⟨hD,hmin⟩:=ZN hrel;obtain⟨f,hf⟩:∃f,least (λf=>Z0 J s i f wr)=f:=⟨_,rfl⟩;rw [hf] at hD;obtain⟨σ,X,S',hJs,hsil,hrun⟩:=hD;clear hrel hmin;obtain⟨kq,hN,⟨ow,tv,lw,hI⟩,⟨k,L,hG⟩, -⟩:=hRd _ _ _ hJs;have eq:=kq.cell;have hfl:=yk _ hI hG.notesN;replace hfl:=G hfl;replace hI:=G hI;replace hG:=G hG;replace hrun:=G hrun;replace hf:=G hf
        by_cases hn0:σ.2.notes.length=0
        ·have t5:decide (0<(σ.2.notes.length:Int))=false:=decide_eq_false (by omega)
         gi_wp2_with fail
         refine(callsIn_wide.2 hfl.out).mono ?_;rintro e w3⟨rfl,hb3⟩;have hJ3:J σ X w3:=hJ _ _ _ _ _ hJs (Mod.of_below X hb3) (λk h=>.inl h)
         gi_wp2
         go_roundw
         case rel=>exact⟨i+1,σ,X,by simp,by omega,hJ3,hsil.snoc (by unfold j1;rw [if_neg (by simp),if_neg (by simp),if_pos hn0])⟩
         case measure=>simp [intOf];omega
        ·have t5:decide (0<(σ.2.notes.length:Int))=true:=decide_eq_true (by omega)
         have hyl:ziU σ.2 (2,i):=⟨by unfold j1;rw [if_neg (by simp),if_neg (by simp),if_neg hn0],λh=>by cases h.1⟩;obtain⟨g,hg,hrun2⟩:=hrun.out.next hsil hyl;replace hrun2:=G hrun2
         gi_wp2_with fail
         refine(callsIn_wide.2 hfl.out).mono ?_;rintro e w3⟨rfl,hb3⟩;have hJ3:J σ X w3:=hJ _ _ _ _ _ hJs (Mod.of_below X hb3) (λk h=>.inl h);obtain⟨fn,tmps,assign,body,hy,hR⟩:=hY σ (2,i) X w3 hJ3 ⟨hsil,hyl⟩;simp only [zhF] at hy hR
         gi_wp2
         refine hR.mono ?_;rintro e W'(⟨rfl,hJ', -⟩|⟨rfl,hx'⟩)
         ·clear hR hy
          have hD':Z0 J s i g W':=⟨_,X,S',hJ',.refl _,hrun2.out⟩
          gi_wp2
          go_roundw
          case rel=>exact⟨g,hD'⟩
          case measure=>exact Nat.lt_of_le_of_lt ((ZN ⟨g,hD'⟩).2 g hD') (by rw [hf.out];omega)
         ·skip
          gi_wp2
          refine bodyPost_ret (results_none rfl _ _ _) rfl ?_;exact⟨⟨_,rfl⟩,.inr ⟨_,hx'⟩⟩
      ·skip
       gi_wp2
       refine bodyPost_ret (results_none rfl _ _ _) rfl ?_;exact⟨⟨_,rfl⟩,.inr ⟨_,hx'⟩⟩
     |false=>
      rw [hd] at hdu;have hsl:j1 σ.2 (1,i)=some (2,i):=by unfold j1;rw [if_neg (by simp),if_pos rfl,if_pos (by simp only;omega),if_neg (by simp only [hd];simp)]
      obtain⟨f0,S',hrun⟩:=hrun;replace hrun:=G hrun;replace hdu:=G hdu;replace hd:=G hd
      gi_wp2_with fail
      refine(callsIn_wide.2 hdu.out).mono ?_;rintro e w3⟨rfl,hb3⟩;have hJ3:J σ X w3:=hJ _ _ _ _ _ hJs (Mod.of_below X hb3) (λk h=>.inl h);have hD0:Z0 J s i f0 w3:=⟨_,X,S',hJ3,hsil.snoc hsl,hrun.out⟩;clear hrun eq hJs hJ3 hsil hsl kq hN
      gi_wp2
      gi_loopw [] (λwr=>∃f,Z0 J s i f wr) (λwr=>least (λf=>Z0 J s i f wr))
      case atStart=>exact⟨f0,hD0⟩
      case round=>
       obtain⟨hD,hmin⟩:=ZN hrel;obtain⟨f,hf⟩:∃f,least (λf=>Z0 J s i f wr)=f:=⟨_,rfl⟩;rw [hf] at hD;obtain⟨σ,X,S',hJs,hsil,hrun⟩:=hD;clear hrel hmin;obtain⟨kq,hN,⟨ow,tv,lw,hI⟩,⟨k,L,hG⟩, -⟩:=hRd _ _ _ hJs;have eq:=kq.cell;have hfl:=yk _ hI hG.notesN;replace hfl:=G hfl;replace hI:=G hI;replace hG:=G hG;replace hrun:=G hrun;replace hf:=G hf
       by_cases hn0:σ.2.notes.length=0
       ·have t5:decide (0<(σ.2.notes.length:Int))=false:=decide_eq_false (by omega)
        gi_wp2_with fail
        refine(callsIn_wide.2 hfl.out).mono ?_;rintro e w3⟨rfl,hb3⟩;have hJ3:J σ X w3:=hJ _ _ _ _ _ hJs (Mod.of_below X hb3) (λk h=>.inl h)
        gi_wp2
        go_roundw
        case rel=>exact⟨i+1,σ,X,by simp,by omega,hJ3,hsil.snoc (by unfold j1;rw [if_neg (by simp),if_neg (by simp),if_pos hn0])⟩
        case measure=>simp [intOf];omega
       ·have t5:decide (0<(σ.2.notes.length:Int))=true:=decide_eq_true (by omega)
        have hyl:ziU σ.2 (2,i):=⟨by unfold j1;rw [if_neg (by simp),if_neg (by simp),if_neg hn0],λh=>by cases h.1⟩;obtain⟨g,hg,hrun2⟩:=hrun.out.next hsil hyl;replace hrun2:=G hrun2
        gi_wp2_with fail
        refine(callsIn_wide.2 hfl.out).mono ?_;rintro e w3⟨rfl,hb3⟩;have hJ3:J σ X w3:=hJ _ _ _ _ _ hJs (Mod.of_below X hb3) (λk h=>.inl h);obtain⟨fn,tmps,assign,body,hy,hR⟩:=hY σ (2,i) X w3 hJ3 ⟨hsil,hyl⟩;simp only [zhF] at hy hR
        gi_wp2
        refine hR.mono ?_;rintro e W'(⟨rfl,hJ', -⟩|⟨rfl,hx'⟩)
        ·clear hR hy
         have hD':Z0 J s i g W':=⟨_,X,S',hJ',.refl _,hrun2.out⟩
         gi_wp2
         go_roundw
         case rel=>exact⟨g,hD'⟩
         case measure=>exact Nat.lt_of_le_of_lt ((ZN ⟨g,hD'⟩).2 g hD') (by rw [hf.out];omega)
        ·skip
         gi_wp2
         refine bodyPost_ret (results_none rfl _ _ _) rfl ?_;exact⟨⟨_,rfl⟩,.inr ⟨_,hx'⟩⟩
    ·obtain rfl:N=i:=by omega
     have t2:decide ((N:Int)<(N:Int))=false:=by simp
     replace hI:=G hI;replace hG:=G hG
     gi_wp2
     go_end0
     exact⟨⟨_,rfl⟩,.inl ⟨σ,X,⟨_,hsil,rfl,by simp only;omega⟩,hJs⟩⟩
def zkm(Ds:List Nat):List Deferred:=Ds.map λD=> {target:=.collected D,args:=#[] }
def Xw(Ds:List Nat)(W:World):World:=Ds.foldl (λW D=>W.putObj D (.deferred none)) W
def zdl(n0:Nat)(ow:Own)(Ds:List Nat)(W:World):Prop:=Ds.Nodup/\∀D∈Ds,n0<=D/\D<W.heap.size/\ow D=[] /\W.heap[D]?=some (.deferred (some []))
theorem zdl.step {n0:Nat}{t:List Nat}(ht:t≠ []){ow ow':Own}{Ds:List Nat}{W W':World}(h:zdl n0 ow Ds W)(hs:zq t ow W ow' W'):zdl n0 ow' Ds W':=
 ⟨h.1,λD hD=>by
  obtain⟨h1,h2,h3,h4⟩:=h.2 D hD
  exact⟨h1,Nat.lt_of_lt_of_le h2 hs.size,by rw [hs.agree D h2];exact h3,(hs.block h2 (by rw [h3];exact zj ht)).trans h4⟩⟩
theorem zdl.cons {n0:Nat}{ow:Own}{Ds:List Nat}{W:World}(h:zdl n0 ow Ds W){D:Nat}(hD:∀x∈Ds,x<D)(h1:n0<=D)(h2:D<W.heap.size)(h3:ow D=[])(h4:W.heap[D]?=some (.deferred (some []))):zdl n0 ow (D::Ds) W:=
 ⟨List.nodup_cons.2 ⟨λhm=>by have:=hD D hm;omega,h.1⟩,λx hx=>by
  rcases List.mem_cons.1 hx with rfl|hx
  ·exact⟨h1,h2,h3,h4⟩
  ·exact h.2 x hx⟩
theorem Xx {P:Program}{fn:Func}{R:Ending->World->Prop}{tmps:Array Value}{v:Value}{m:Nat} :∀(Ds:List Nat)(W:World),Ds.Nodup->(∀D∈Ds,W.heap[D]?=some (.deferred (some [])))->(results fn tmps).run P (Xw Ds W)=.ok v (Xw Ds W)->R (.returned v) (Xw Ds W)->
 LeavesInM Fence.wide m P fn tmps R (zkm Ds) .returning W
 | [],W,_,_,hr,hR=>⟨v,hr,hR⟩
 |D::Ds,W,hn,hD,hr,hR=>by
  refine⟨by simp,.inl ⟨D,_,rfl,run_takeDeferred (hD D (by simp)),?_⟩⟩;rw [List.nodup_cons] at hn;refine Xx Ds _ hn.2 (λx hx=>?_) hr hR;have hxd:x≠D:=λe=>hn.1 (e ▸ hx)
  rw [U1 hxd];exact hD x (by simp [hx])
theorem YE {t:List Nat}(ht:t≠ []){A:Own->World->Prop}(hA:yJ t A){n0:Nat}{ow0 ow:Own}{W0:World}(hn0:n0=W0.heap.size):∀(Ds:List Nat)(W:World),(∀D∈Ds,n0<=D/\ow D=[])->A ow W->zq t ow0 W0 ow W->A ow (Xw Ds W)/\zq t ow0 W0 ow (Xw Ds W)
 | [],W,_,h,hs=>⟨h,hs⟩
 |D::Ds,W,hD,h,hs=>by
  have h1:=hD D (by simp);exact YE ht hA hn0 Ds _ (λx hx=>hD x (by simp [hx])) (hA.put ht h h1.2 _) (hs.putNew D _ (by omega))
structure OnW(t:List Nat)(ow:Own)(W0:World)(A:Own->World->Prop)(ow':Own)(X:Nat->Prop)(W:World):Prop where
 is:A ow' W
 st:zq t ow W0 ow' W
 xs:∀k,X k->W0.heap.size<=k/\k<W.heap.size/\ow' k=[]
theorem OnW.stab {t:List Nat}(ht:t≠ []){ow:Own}{W0:World}{A:Own->World->Prop}(hA:yJ t A){ow':Own}{X X':Nat->Prop}{W W':World}(h:OnW t ow W0 A ow' X W)(hm:Mod X W W')(hx:∀k,X' k->X k∨(W.heap.size<=k/\k<W'.heap.size)):OnW t ow W0 A (ow'.cut W) X' W' where
 is:=hA _ _ _ _ h.is hm.size (λk hk hs=>⟨Own.cut_old hk,hm.block k hk (λhX=>by rw [(h.xs k hX).2.2] at hs;exact zj ht hs)⟩)
 st:=⟨h.st.mod.trans hm (λ_ _ e=>e) (λk hk e=>by have:=(h.xs k e).1;omega),λk hk=>(Own.cut_old (by have:=h.st.size;omega)).trans (h.st.agree k hk)⟩
 xs:=λk hk=>by
  have hs:=hm.size
  rcases hx k hk with h1|h1
  ·have h2:=h.xs k h1
   exact⟨h2.1,by omega,by rw [Own.cut_old h2.2.1];exact h2.2.2⟩
  ·exact⟨by have:=h.st.size;omega,by omega,Own.cut_new h1.1⟩
theorem OnW.step {t:List Nat}{ow:Own}{W0:World}{A A':Own->World->Prop}{ow1 ow2:Own}{X:Nat->Prop}{W W':World}(h:OnW t ow W0 A ow1 X W)(hs:zq t ow1 W ow2 W')(hn:A' ow2 W'):OnW t ow W0 A' ow2 X W' where
 is:=hn
 st:=h.st.trans hs
 xs:=λk hk=>by
  have h2:=h.xs k hk;exact⟨h2.1,by have:=hs.size;omega,by rw [hs.agree k h2.2.1];exact h2.2.2⟩
theorem OnW.saves {t:List Nat}(ht:t≠ []){ow:Own}{W0:World}{A:Own->World->Prop}{ow1 ow2:Own}{X:Nat->Prop}{W W':World}(h:OnW t ow W0 A ow1 X W)(hs:zq t ow1 W ow2 W'):jr X W W':=
 ⟨hs.size,λk hX hk=>hs.block hk (by rw [(h.xs k hX).2.2];exact zj ht)⟩
theorem zdm(q:ZZ):zhx (zao q):=by
 unfold zao
 split
 ·exact⟨by simp,by simp,by simp⟩
 ·split
  ·exact⟨by simp,by simp,by simp⟩
  ·exact⟨by simp,by simp,by simp⟩
theorem zhG(s:StD)(S:zl)(v:Int)(k L:Nat)(hs:s=zo v)(hG:zr v k L S)(hL:L<=3000000000)(q:ZZ):zr v (k+1) (L+16) (doW s S (zao q)).1:=by
 rw [hs];exact hG.does hL _ (zdm q).len (zdm q).mask
theorem yl(S:zl)(i:Nat)(n:zu):(setNode S i n).nodes.length=S.nodes.length:=by unfold setNode;simp
theorem Jo(S:zl)(kind src inst:Int)(b:Nat)(more:List UInt8):(vj S kind src inst b more).nodes.length=S.nodes.length:=by
 unfold vj
 generalize List.range S.nodes.length=js
 induction js generalizing S with
 |nil=>rfl
 |cons j js ih=>rw [List.foldl_cons,ih,(xG _ _).1]
theorem zdn(S:zl)(i:Nat):(yq S i).1.nodes.length=S.nodes.length:=by
 unfold yq
 split
 ·rfl
 split
 ·rfl
 ·rw [Jo];rfl
theorem Vd(S:zl)(i src:Nat)(inst:Int)(b:Nat)(more:List UInt8):(countPromise S i src inst b more).nodes.length=S.nodes.length:=by
 unfold countPromise
 split
 ·rfl
 split
 ·rfl
 simp only
 split
 ·rfl
 split
 ·rfl
 ·rw [Jo]
theorem zap(S:zl)(i src:Nat)(inst:Int)(b:Nat):(countVote S i src inst b).nodes.length=S.nodes.length:=by
 unfold countVote
 split
 ·rfl
 split
 ·rfl
 simp only
 split
 ·rfl
 ·rw [Jo]
theorem zfY(S:zl)(i:Nat)(f:vA)(inst:Int)(b:Nat)(more:List UInt8):(v7 S i f inst b more).nodes.length=S.nodes.length:=by
 unfold v7
 split
 ·rw [(xG _ _).1]
 split
 ·simp only
  split
  ·rw [(xG _ _).1,yl]
  ·rw [yl]
 ·simp only
  split
  ·rw [(xG _ _).1,yl]
  ·rw [yl]
theorem zdo(S:zl)(i:Nat)(f:vA):(vM S i f).nodes.length=S.nodes.length:=by
 unfold vM
 split
 ·rfl
 simp only
 split
 ·exact zfY _ _ _ _ _ _
 split
 ·exact Vd _ _ _ _ _ _
 split
 ·exact zap _ _ _ _ _
 split
 ·rw [yl];rfl
 ·rfl
theorem ziX(S:zl)(p:Int):(Jh S p).1.nodes.length=S.nodes.length:=by
 unfold Jh
 split
 ·rfl
 split
 ·rfl
 ·simp only
  split
  ·rw [zdo]
  ·rfl
theorem ziY(S:zl)(p:Int):(J4 S p).1.nodes.length=S.nodes.length:=by
 unfold J4
 split
 ·rfl
 split<;>rfl
theorem ziZ(S:zl)(p:Int):(Yy S p).1.nodes.length=S.nodes.length:=by
 unfold Yy
 split
 ·rfl
 split
 ·rfl
 ·simp only
  split
  ·rfl
  split
  ·show(yu _ _ _).1.nodes.length=_
   rw [(vB _ _ _).1]
  ·rw [(vB _ _ _).1]
theorem zi0(S:zl)(p b:Int)(m:Nat):(Ji S p b m).1.nodes.length=S.nodes.length:=by
 unfold Ji
 split
 ·rfl
 split
 ·rfl
 split
 ·rfl
 split<;>rfl
theorem zef(S:zl):(ZO S).nodes.length=S.nodes.length:=by
 unfold ZO;rw [x4,x4]
theorem zeg(s:StD)(S:zl)(o:OpD):(yM S s o).1.nodes.length=S.nodes.length:=by
 unfold yM;simp only
 split
 ·rw [yl];rfl
 split
 ·exact zdn _ _
 split
 ·exact ziX _ _
 split
 ·exact ziY _ _
 split
 ·exact ziZ _ _
 split
 ·exact zi0 _ _ _ _
 split
 ·rw [yl]
 split
 ·rw [yl]
 split
 ·rw [yl];rfl
 split
 ·rw [yl]
 ·rfl
theorem zjb(s:StD)(S:zl)(o:OpD):(doW s S o).1.nodes.length=S.nodes.length:=by
 unfold doW
 split
 ·rfl
 split
 ·rfl
 ·simp only
  split
  ·show(ZO _).nodes.length=_
   rw [zef,zeg]
  ·rw [zef,zeg]
