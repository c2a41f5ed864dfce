/- PARTS OF THE PROOF. -/
import Derived.Test.YtofppfoioodblaaGreatDoorTT04
import Derived.Test.YtofppfoioodblaaGreatDoorTT32
import Derived.Test.YtofppfoioodblaaGreatDoorTT36
set_option maxRecDepth 8000
set_option maxHeartbeats 4000000
open Go.Proofs.Tryz
namespace Go.Proofs.YtofppfoioodblaaGreatDoor
section
open Go Go.RowKit Go.Shelf Go.Extern.Stop Go.Stop Go.Extern
attribute [local go_sem] Oper.semAt_some zv zm
theorem zjd(n:Nat)(b:Bool)(x:Int)(w:World):(Instr.checkKey b (n+1+1) 132 (.agg #[.int .i64 x])).run prog w=.ok () w:=by
 simp [Instr.checkKey,go_sem]
theorem zdk:x4 prog 132 Vb where
 eq:=λk k' w=>by
  have h:(Op.equal 132 (Vb k) (Vb k')).run prog w=(Op.equalIn 10000 132 (.agg #[.int .i64 k]) (.agg #[.int .i64 k'])).run prog w:=rfl;rw [h];simp [go_sem]
  by_cases h1:k=k'<;>simp [h1]
 chk:=λb k w=>zjd 9998 b k w
 bits:=λk=>by simp [Vb,Instr.sameBits]
 now:=⟨_,Tryz.underlying132,λk k'=>by left;rfl⟩
theorem zje(i j:Int)(a b:Nat)(w:World):(binOp .eql 171 (.agg #[.int .i64 i,.int .u64 (a:Nat)]) (.agg #[.int .i64 j,.int .u64 (b:Nat)])).run prog w=.ok (.bool (decide (i=j)&& decide (a=b))) w:=by
 have h:(Op.equalIn Op.maxDepth 171 (.agg #[.int .i64 i,.int .u64 (a:Nat)]) (.agg #[.int .i64 j,.int .u64 (b:Nat)])).run prog w=.ok (decide (i=j)&& decide (a=b)) w:=by
  have h2:(Op.equalIn (9998+1+1) 171 (.agg #[.int .i64 i,.int .u64 (a:Nat)]) (.agg #[.int .i64 j,.int .u64 (b:Nat)])).run prog w=.ok (decide (i=j)&& decide (a=b)) w:=by
   simp [go_sem]
   by_cases h1:i=j<;>by_cases h2:a=b<;>simp [h1,h2] <;>omega
  exact h2
 simp [binOp,Op.equal,h,Result.andThen,go_sem]
variable {B:Nat}{K:WK}{tv:Value}{lp:Nat->Option Nat}{S:zf}{t:List Nat}{ow:Own}
def zk6(p:Option Nat):Value:=.pointer (p.map λb=>⟨b,0,none⟩)
def YY(S:zf)(i:Nat)(inst:Int)(ballot:Nat):Bool:=match zD (i:Int) S.leads with
 |none=>false
 |some l=>decide (l.inst=inst)&& decide (l.ballot=ballot)
theorem Xm(i:Nat)(inst:Int)(ballot:Nat)(w:World)(h:zk B K tv lp S t ow w):Calls prog 203 #[.pointer (some ⟨B,0,none⟩),.int .i64 i,xE inst ballot] w λe w'=>
 e=.returned (.tuple #[zk6 (lp i),.bool (YY S i inst ballot)])/\Below w.heap.size w w':=by
 have hB:=h.blk;have hb1:Below w.heap.size w (w.alloc (.cells #[.int .i64 inst,.int .u64 (ballot:Nat)] 171)):=pbx;have hB1:=hB.call hb1;obtain⟨-,ps, -,hM,hps⟩:=h.leadsM;have hld:=h.lead i;have hlk:=(hM.kept (hb1.block _ hM.lt)).lookup_ok zdk Tryz.underlying58 (z:=.pointer none) (by kernel_rfl) (i:Int);rw [hps i] at hlk;unfold Vb at hlk;have km:Blk (w.alloc (.cells #[.int .i64 inst,.int .u64 (ballot:Nat)] 171)) w.heap.size #[.int .i64 inst,.int .u64 (ballot:Nat)] 171:=Blk.new rfl;unfold YY zk6 xE;have e0:=hB.cell;have l0:=hB.lt;clear hM h hB;replace hps:=hid hps
 cases hl:lp i with
 |none=>
  cases hk:zD (i:Int) S.leads with
  |some l=>rw [hl,hk] at hld;exact hld.elim
  |none=>
   rw [hl] at hlk;simp only [Option.map_none,Option.getD_none,Option.isSome_none] at hlk⊢;clear hld hk hl
   go_enter func203,ntmps203
   go_wp2_with fail
   refine zd [O 0,O 1,O 2,O 3,O 4,O 5,O 6,O 7,O 8,O 9,O 10,O 11] none (λw'=>True) (by kernel_rfl) (by kernel_rfl) trivial ?_
   (repeat (refine za (v:=?_) rfl rfl (λw' h=>?_) (λK k=>?_);rotate_left;obtain⟨f1,f2,f3,_⟩:=h;(try have e1:=f1.cell);(try have e2:=f2.cell);(try have e3:=f3.cell);go_simp;(try with_reducible rfl);go_simp;refine k _ ?_;clear k K))
   (repeat (refine je rfl rfl (λK hK=>?_);go_simp;refine hK _ ?_;clear hK K))
   (repeat (refine za (v:=?_) rfl rfl (λw' h=>?_) (λK k=>?_);rotate_left;obtain⟨f1,f2,f3,_⟩:=h;(try have e1:=f1.cell);(try have e2:=f2.cell);(try have e3:=f3.cell);go_simp;(try with_reducible rfl);go_simp;refine k _ ?_;clear k K))
   refine ze ?_;go_wp2;go_ret2
   exact⟨rfl,zo hb1⟩
 |some lb=>
  cases hk:zD (i:Int) S.leads with
  |none=>rw [hl,hk] at hld;exact hld.elim
  |some l=>
   rw [hl] at hlk;rw [hl,hk] at hld;simp only [Option.map_some,Option.getD_some,Option.isSome_some] at hlk⊢;obtain⟨-, -,pv,hLB, -⟩:=hld;have hLB1:=hLB.call hb1;have c0:(w.alloc (.cells #[.int .i64 inst,.int .u64 (ballot:Nat)] 171)).cell? ⟨lb,0,none⟩=some (.int .i64 l.inst):=hLB1.cell 0;have c1:(w.alloc (.cells #[.int .i64 inst,.int .u64 (ballot:Nat)] 171)).cell? ⟨lb,1,none⟩=some (.int .u64 (l.ballot:Nat)):=hLB1.cell 1;have heq:=λW=>zje l.inst inst l.ballot ballot W
   generalize(decide (l.inst=inst)&& decide (l.ballot=ballot))=bq at*
   generalize l.inst=li at*
   generalize l.ballot=lba at*
   clear hk hl hLB hLB1
   go_enter func203,ntmps203
   go_wp2_with fail
   refine zd [O 0,O 1,O 2,O 3,O 4,O 5,O 6,O 7,O 8,O 9,O 10,O 11] none (λw'=>Blk w' w.heap.size #[.int .i64 inst,.int .u64 (ballot:Nat)] 171/\w'.cell? ⟨lb,0,none⟩=some (.int .i64 li)/\w'.cell? ⟨lb,1,none⟩=some (.int .u64 (lba:Nat))/\True) (by kernel_rfl) (by kernel_rfl) ⟨km.drew,c0,c1,trivial⟩ ?_
   (repeat (refine za (v:=?_) rfl rfl (λw' h=>?_) (λK k=>?_);rotate_left;obtain⟨f1,f2,f3,_⟩:=h;have e1:=f1.cell;go_simp;(try with_reducible rfl);go_simp;refine k _ ?_;clear k K))
   refine ze ?_;go_wp2;go_ret2
   exact⟨rfl,zo hb1⟩
end
section
open Go Go.RowKit Go.Shelf Go.Extern.Stop Go.Stop Go.Extern
attribute [local go_sem] Oper.semAt_some zv zm
section
variable {pv:Value}{l:j8}
theorem XU(h1:l.promised.length=16){q:Nat}(hq:q<16):(zE pv l)[4+q]?=some (.bool (l.promised[q]?.getD false)):=by
 unfold zE;rw [U6 (by simp),U8 (by simp;omega),List.getElem?_map];simp only [List.length_cons,List.length_nil,Nat.add_sub_cancel_left];rw [N3 (by omega)];rfl
theorem XV(h1:l.promised.length=16)(h2:l.voted.length=16){q:Nat}(hq:q<16):(zE pv l)[20+q]?=some (.bool (l.voted[q]?.getD false)):=by
 unfold zE;rw [U6 (by simp;omega),U6 (by simp;omega),U8 (by simp;omega),List.getElem?_map];simp only [List.length_cons,List.length_nil,List.length_map,h1];rw [show 20+q - (0+1+1+1+1) - 16=q by omega,N3 (by omega)];rfl
theorem y6(h1:l.promised.length=16)(h2:l.voted.length=16)(q:Nat):(zE pv l)[36+q]?=[Value.int .i64 (l.votes:Nat),.bool l.asked,.bool l.told][q]?:=by
 unfold zE;rw [U6 (by simp;omega),U6 (by simp;omega),U6 (by simp;omega)];simp only [List.length_cons,List.length_nil,List.length_map,h1,h2];rw [show 36+q - (0+1+1+1+1) - 16 - 16=q by omega]
theorem zbQ(h1:l.promised.length=16){q:Nat}(hq:q<16)(b:Bool):(zE pv l).set (4+q) (.bool b)=zE pv {l with promised:=l.promised.set q b} :=by
 unfold zE;rw [List.set_append_right _ _ (by simp),List.set_append_left _ _ (by simp;omega)];simp only [List.length_cons,List.length_nil,Nat.add_sub_cancel_left];rw [List.map_set]
theorem zbR(h1:l.promised.length=16)(h2:l.voted.length=16){q:Nat}(hq:q<16)(b:Bool):(zE pv l).set (20+q) (.bool b)=zE pv {l with voted:=l.voted.set q b} :=by
 unfold zE;rw [List.set_append_right _ _ (by simp;omega),List.set_append_right _ _ (by simp;omega),List.set_append_left _ _ (by simp;omega)];simp only [List.length_cons,List.length_nil,List.length_map,h1];rw [show 20+q - (0+1+1+1+1) - 16=q by omega,List.map_set]
theorem Jb(h1:l.promised.length=16)(h2:l.voted.length=16)(q:Nat)(u:Value):(zE pv l).set (36+q) u=[.int .i64 l.inst,.int .u64 (l.ballot:Nat),.string (bs l.value),pv] ++(l.promised.map Value.bool++(l.voted.map Value.bool++ [Value.int .i64 (l.votes:Nat),.bool l.asked,.bool l.told].set q u)):=by
 unfold zE;rw [List.set_append_right _ _ (by simp;omega),List.set_append_right _ _ (by simp;omega),List.set_append_right _ _ (by simp;omega)];simp only [List.length_cons,List.length_nil,List.length_map,h1,h2];rw [show 36+q - (0+1+1+1+1) - 16 - 16=q by omega]
theorem zam(h1:l.promised.length=16)(h2:l.voted.length=16)(n:Nat):(zE pv l).set 36 (.int .i64 (n:Nat))=zE pv {l with votes:=n} :=Jb h1 h2 0 _
theorem zan(h1:l.promised.length=16)(h2:l.voted.length=16)(b:Bool):(zE pv l).set 37 (.bool b)=zE pv {l with asked:=b} :=Jb h1 h2 1 _
theorem zbS(h1:l.promised.length=16)(h2:l.voted.length=16)(b:Bool):(zE pv l).set 38 (.bool b)=zE pv {l with told:=b} :=Jb h1 h2 2 _
end
theorem Blk.setL {w:World}{b o:Nat}{cs cs':List Value}{t:TypeId}(h:Blk w b cs.toArray t){v:Value}(he:cs.set o v=cs'):Blk (w.setCell ⟨b,o,none⟩ v) b cs'.toArray t:=by
 have h':=h.set (o:=o) v;rw [List.setIfInBounds_toArray,he] at h';exact h'
theorem Blk.cellL {w:World}{b:Nat}{cs:List Value}{t:TypeId}(h:Blk w b cs.toArray t){o:Nat}{v:Value}(he:cs[o]?=some v):w.cell? ⟨b,o,none⟩=some v:=by
 rw [h.cell,List.getElem?_toArray,he]
theorem ZA {lb:Nat}{l l':j8}{pv:Value}{u:List Nat}{ow:Own}{W W':World}(hB:Blk W lb (zE pv l).toArray 175)(hR:Row W 317 3 pv l.promises.length (l.promises.flatMap zK))(o1:ow lb=u)(o2:∀g,pv.ownBlock=some g->ow g=u)
 (hM:Mod (λk=>k=lb) W W') (hB':Blk W' lb (zE pv l').toArray 175) (hp:l'.promises=l.promises) (h1:l'.promised.length=16) (h2:l'.voted.length=16):zq u ow W ow W'/\JR lb l' u ow W':=by
 refine⟨⟨hM.mono (λk _ e=>by subst e;rw [o1];exact Sub.rfl' u),λ_ _=>rfl⟩,h1,h2,pv,hB',?_,o1,o2⟩;rw [hp];exact hR.mod hM (λg hg e=>hR.ne_blk hB (by decide) hg e)
variable {B:Nat}{K:WK}{tv:Value}{lp:Nat->Option Nat}{S:zf}{t:List Nat}{ow ow':Own}{W W':World}
theorem zk.setLead(h:zk B K tv lp S t ow W){i lb:Nat}{l1:j8}(hlp:lp i=some lb)(hs:zq (t++ [i+32]) ow W ow' W')(hL:JR lb l1 (t++ [i+32]) ow' W'):zk B K tv lp {S with leads:=put (i:Int) l1 S.leads} t ow' W':=by
 refine h.setPart (i+32) hs rfl (λj hj=>?_) ?_
 ·by_cases hj32:j<32
  ·unfold vN
   simp only [if_pos hj32]
  ·have hne:((j - 32:Nat):Int)≠(i:Int):=by omega
   unfold vN;simp only [Zj,if_neg hne]
 ·unfold vN
  rw [if_neg (by omega),if_neg (by omega),if_neg (by omega),if_neg (by omega),if_neg (by omega),if_neg (by omega),if_neg (by omega),if_neg (by omega),if_neg (by omega),Nat.add_sub_cancel];simp only [Zj,if_pos,hlp];exact hL
theorem zk.leadAt(h:zk B K tv lp S t ow W){i:Nat}{l:j8}(hl:zD (i:Int) S.leads=some l):∃lb,lp i=some lb/\JR lb l (t++ [i+32]) ow W:=by
 have:=h.lead i;rw [hl] at this
 cases hp:lp i with
 |none=>rw [hp] at this;exact this.elim
 |some lb=>rw [hp] at this;exact⟨lb,rfl,this⟩
end
open Go Go.RowKit Go.Shelf Go.Extern.Stop Go.Stop Go.Extern
attribute [local go_sem] Oper.semAt_some zv zm
theorem zao {K V:Type} [DecidableEq K](i:K)(x y:V):∀l:List (K×V),put i y (put i x l)=put i y l
 | []=>by simp [put]
 |(a,b)::l=>by
  unfold put
  by_cases h:i=a
  ·rw [if_pos h];simp [put,h]
  ·rw [if_neg h];simp only [put,if_neg h];rw [zao i x y l]
theorem zap(B:Nat)(K:WK)(S:zf)(t:List Nat)(ht:t≠ [])(ow:Own)(i src:Nat)(hi:i<16)(hsrc:src<16)(inst:Int)(ballot:Nat)(w:World)(h:zL B K S t ow w)(hg:zal S)(hlv:∀l,zD (i:Int) S.leads=some l->l.value.length<=900000/\l.votes<=1000):
 Calls prog 153 #[.pointer (some ⟨B,0,none⟩),.int .i64 i,.int .i64 src,xE inst ballot] w (xZ B K (countVote S i src inst ballot) t ow w (.tuple #[])):=by
 obtain⟨tv,lp,hI⟩:=h;have hb1:Below w.heap.size w (w.alloc (.cells #[.int .i64 inst,.int .u64 (ballot:Nat)] 171)):=pbx;have hI1:=(zk.loc B K tv lp S t).cut hI hb1;have km:Blk (w.alloc (.cells #[.int .i64 inst,.int .u64 (ballot:Nat)] 171)) w.heap.size #[.int .i64 inst,.int .u64 (ballot:Nat)] 171:=Blk.new rfl;have hom:(ow.cut w) w.heap.size=[]:=Own.cut_new (N0 _);have hld:=λW hW=>Xm (B:=B) (K:=K) (tv:=tv) (lp:=lp) (S:=S) (t:=t) (ow:=ow.cut w) i inst ballot W hW
 obtain⟨ow1,ho1⟩:∃o,ow.cut w=o:=⟨_,rfl⟩;have hst0:zq t ow1 w ow1 w:=zq.refl _ _ _;rw [ho1] at hI1 hom hld;unfold xE at*;clear hI
 cases hbb:YY S i inst ballot with
 |false=>
  have hcv:countVote S i src inst ballot=S:=by
   unfold countVote;unfold YY at hbb
   cases hl:zD (i:Int) S.leads with
   |none=>rfl
   |some l=>
    rw [hl] at hbb;simp only at hbb⊢;rw [if_pos]
    by_cases h1:l.inst=inst
    ·right;left;intro h2;simp [h1,h2] at hbb
    ·left;exact h1
  rw [hcv];rw [hbb] at hld;replace hld:=hid hld;clear hcv hbb
  go_enter func153,ntmps153
  go_wp2_with fail
  refine(hld.out _ hI1).mono ?_;rintro e w2⟨rfl,hb2⟩;have hI2:=(zk.loc B K tv lp S t).below hI1 hb2;have hbw2:=zg hb1 hb2;go_wp2;go_end0
  exact⟨rfl,ow1,zq.wrap hbw2 (by rw [ho1];exact zq.refl _ _ _),tv,lp,hI2⟩
 |true=>
  obtain⟨l,hl,hli,hlb⟩:∃l,zD (i:Int) S.leads=some l/\l.inst=inst/\l.ballot=ballot:=by
   unfold YY at hbb
   cases hl:zD (i:Int) S.leads with
   |none=>rw [hl] at hbb;cases hbb
   |some l=>rw [hl] at hbb;simp at hbb;exact⟨l,rfl,hbb.1,hbb.2⟩
  obtain⟨lb,hlp,h1,h2,pv,hLB0,hLR0,o1,o2⟩:=hI1.leadAt hl;rw [hbb,hlp] at hld;unfold zk6 at hld;simp only [Option.map_some] at hld
  have hcv:countVote S i src inst ballot=if l.told∨l.voted[src]?.getD false then S
   else if 2*(l.votes+1)<=S.nodes.length then {S with leads:=put (i:Int) {l with voted:=l.voted.set src true,votes:=l.votes+1} S.leads}
   else j0 {S with leads:=put (i:Int) {l with voted:=l.voted.set src true,votes:=l.votes+1,told:=true} S.leads} 7 i inst ballot l.value:=by
   unfold countVote;rw [hl];simp only
   by_cases hc:l.told∨l.voted[src]?.getD false
   ·rw [if_pos (.inr (.inr hc)),if_pos hc]
   ·rw [if_neg hc,if_neg (by rw [hli,hlb];simp only [ne_eq,not_true_eq_false,false_or];exact hc)]
  have hlv2:=hlv l hl;have hv20:=XV (pv:=pv) h1 h2 hsrc;have hvt:=y6 (pv:=pv) h1 h2 2;have hvn:=y6 (pv:=pv) h1 h2 0;obtain⟨vd,hvd⟩:∃b,l.voted[src]?.getD false=b:=⟨_,rfl⟩;rw [hvd] at hv20 hcv;have y0:(0:Int)<=(src:Int):=by omega
  have y1:(src:Int)<16:=by omega
  replace hld:=hid hld;replace hvd:=hid hvd;replace hlv:=hid hlv;replace hbb:=hid hbb;replace hl:=hid hl;replace hlp:=hid hlp;replace o2:=hid o2
  by_cases hc:l.told=true∨vd=true
  ·rw [if_pos hc] at hcv
   rw [hcv];replace hcv:=hid hcv
   cases htd:l.told with
   |true=>
    go_enter func153,ntmps153
    go_wp2_with fail
    refine(hld.out _ hI1).mono ?_;rintro e w2⟨rfl,hb2⟩;have hI2:=(zk.loc B K tv lp S t).below hI1 hb2;have hbw2:=zg hb1 hb2;have c38:=(hLB0.call hb2).cellL hvt;simp only [Nat.reduceAdd,htd] at c38;go_wp2;go_end0
    exact⟨rfl,ow1,zq.wrap hbw2 (by rw [ho1];exact zq.refl _ _ _),tv,lp,hI2⟩
   |false=>
    have hvt':vd=true:=by rw [htd] at hc;simpa using hc
    subst hvt'
    go_enter func153,ntmps153
    go_wp2_with fail
    refine(hld.out _ hI1).mono ?_;rintro e w2⟨rfl,hb2⟩;have hI2:=(zk.loc B K tv lp S t).below hI1 hb2;have hbw2:=zg hb1 hb2;have c38:=(hLB0.call hb2).cellL hvt;have c20:=(hLB0.call hb2).cellL hv20;simp only [Nat.reduceAdd,htd] at c38;clear hc;go_wp2;go_end0
    exact⟨rfl,ow1,zq.wrap hbw2 (by rw [ho1];exact zq.refl _ _ _),tv,lp,hI2⟩
  ·rw [if_neg hc] at hcv
   rw [not_or] at hc;have htd:l.told=false:=by simpa using hc.1
   have hvf:vd=false:=by simpa using hc.2
   subst hvf;replace hcv:=hid hcv;clear hc
   go_enter func153,ntmps153
   go_wp2_with fail
   refine(hld.out _ hI1).mono ?_;rintro e w2⟨rfl,hb2⟩;have hI2:=(zk.loc B K tv lp S t).below hI1 hb2;have hbw2:=zg hb1 hb2;have hLB2:=hLB0.call hb2;have c38:=hLB2.cellL hvt;have c20:=hLB2.cellL hv20;have c36:=hLB2.cellL hvn;have f2:=hLB2.frozen;have l2:=hLB2.lt;have hwv:IntKind.i64.wrap ((l.votes:Int)+1)=((l.votes+1:Nat):Int):=by rw [N8];omega
   go_wp2_with fail
   have hvc:(l.votes:Int)+1=((l.votes+1:Nat):Int):=by omega
   rw [hvc];obtain⟨w3,hw3⟩:∃w3,w3=(w2.setCell ⟨lb,20+src,none⟩ (.bool true)).setCell ⟨lb,36,none⟩ (.int .i64 ((l.votes+1:Nat):Int)):=⟨_,rfl⟩;have hM3:Mod (λk=>k=lb) w2 w3:=by rw [hw3];exact((Mod.refl (λk=>k=lb) w2).thenSet (p:=⟨lb,20+src,none⟩) rfl _).thenSet (p:=⟨lb,36,none⟩) rfl _
   have hLB3:Blk w3 lb (zE pv {l with voted:=l.voted.set src true,votes:=l.votes+1}).toArray 175:=by
    rw [hw3];exact(hLB2.setL (zbR h1 h2 hsrc true)).setL (zam (l:={l with voted:=l.voted.set src true}) h1 (by simp [h2]) (l.votes+1))
   rw [← hw3];clear hw3 c38 c20 c36 f2 l2;obtain⟨hs3,hL3⟩:=ZA (l':={l with voted:=l.voted.set src true,votes:=l.votes+1}) hLB2 (hLR0.below hb2) o1 o2.out hM3 hLB3 rfl h1 (by simp [h2]);have hI3:=hI2.setLead hlp.out hs3 hL3;have hmk:lb≠w.heap.size:=λe=>by rw [e,hom] at o1;simp at o1
   have km3:=(km.call hb2).kept (hM3.block _ (km.call hb2).lt (λe=>hmk e.symm));have c36:=hLB3.cellL (y6 (l:={l with voted:=l.voted.set src true,votes:=l.votes+1}) h1 (by simp [h2]) 0);have c2:w3.cell? ⟨lb,2,none⟩=some (.string (bs l.value)):=hLB3.cell 2;have kB3:=hI3.blk;have hs13:zq t ow1 (w.alloc (.cells #[.int .i64 inst,.int .u64 (ballot:Nat)] 171)) ow1 w3:=(zq.of_below t ow1 hb2).trans (hs3.mono (Sub.child t (i+32)));have hw2:IntKind.i64.wrap (2*((l.votes+1:Nat):Int))=((2*(l.votes+1):Nat):Int):=by rw [N8];omega
   simp only [Nat.add_zero] at c36;obtain⟨N,hN⟩:∃N,S.nodes.length=N:=⟨_,rfl⟩;simp only [hN] at kB3;have hvL:(l.votes+1:Nat)=(l.votes+1:Nat):=rfl
   generalize hV:l.votes+1=V at*
   have f3:=hLB3.frozen;have l3:=hLB3.lt;have c38:=hLB3.cellL (y6 (l:={l with voted:=l.voted.set src true,votes:=V}) h1 (by simp [h2]) 2);simp only [Nat.reduceAdd] at c38;replace hV:=hid hV;refine zd [O 0,O 1,O 2,O 3,O 4,O 5,O 6,O 7,O 8,O 9,O 10] none (λw'=>w'.cell? ⟨lb,36,none⟩=some (.int .i64 (V:Nat))/\Blk w' B #[.slice (some ⟨K.nb,0,none⟩) N K.nc,.slice (some ⟨K.sb,0,none⟩) N N,.map (some K.lm),.pointer (some ⟨K.fb,0,none⟩),.map (some K.hm),.map (some K.dm),tv] 65/\True) (by kernel_rfl) (by kernel_rfl) ⟨c36,kB3.drew,trivial⟩ ?_
   (repeat (refine za (v:=?_) rfl rfl (λw' h=>?_) (λK k=>?_);rotate_left;obtain⟨f1,f2,_⟩:=h;have e2:=f2.cell;go_simp;(try with_reducible rfl);go_simp;refine k _ ?_;clear k K))
   refine ze ?_
   by_cases hle:2*V<=N
   ·have t9:decide (2*V<=N)=true:=by simpa using hle
    rw [hN,if_pos hle] at hcv;go_wp2;go_end0
    exact⟨rfl,ow1,zq.wrap hb1 (by rw [ho1];exact hs13.trans (zq.drew _ _ _)),by rw [hcv.out];exact⟨tv,lp,(zk.loc B K tv lp _ t).below hI3 (zo (N2 _ _))⟩⟩
   ·have t9:decide (2*V<=N)=false:=by simpa using hle
    rw [hN,if_neg hle] at hcv;go_wp2_with fail
    obtain⟨w4,hw4⟩:∃w4,w4=w3.setCell ⟨lb,38,none⟩ (.bool true):=⟨_,rfl⟩;have hM4:Mod (λk=>k=lb) w3 w4:=by rw [hw4];exact(Mod.refl (λk=>k=lb) w3).thenSet (p:=⟨lb,38,none⟩) rfl _
    have hLB4:Blk w4 lb (zE pv {l with voted:=l.voted.set src true,votes:=V,told:=true}).toArray 175:=by
     rw [hw4];exact hLB3.setL (zbS (l:={l with voted:=l.voted.set src true,votes:=V}) h1 (by simp [h2]) true)
    obtain⟨hs4,hL4⟩:=ZA (l:={l with voted:=l.voted.set src true,votes:=V}) (l':={l with voted:=l.voted.set src true,votes:=V,told:=true}) hLB3 ((hLR0.below hb2).mod hM3 (λg hg e=>(hLR0.below hb2).ne_blk hLB2 (by decide) hg e)) o1 o2.out hM4 hLB4 rfl h1 (by simp [h2]);have hI4:=hI3.setLead hlp.out hs4 hL4;have km4:=km3.kept (hM4.block _ km3.lt (λe=>hmk e.symm));have c24:w4.cell? ⟨lb,2,none⟩=some (.string (bs l.value)):=hLB4.cell 2;rw [← hw4];clear hw4 c36 c2 f3 l3 c38 kB3;obtain⟨W5,hW5⟩:∃W5,W5=(w4.alloc (.cells #[.string (bs l.value)] 9)).drew.drew:=⟨_,rfl⟩;have hb5:Below w4.heap.size w4 W5:=by rw [hW5];exact zo (zo (zi (N2 _ _) _))
    have hI5:=(zk.loc B K tv lp _ t).cut hI4 hb5;have k5:Blk W5 w4.heap.size #[.string (bs l.value)] 9:=by rw [hW5];exact(Blk.new rfl).drew.drew
    have hsa:=Zk B K {S with leads:=put (i:Int) {l with voted:=l.voted.set src true,votes:=V,told:=true} (put (i:Int) {l with voted:=l.voted.set src true,votes:=V} S.leads)} t ht (ow1.cut w4) 7 i (by omega) hi inst ballot (.slice (some ⟨w4.heap.size,0,none⟩) 1 1) [l.value] W5 ⟨tv,lp,hI5⟩ ⟨hg.notes,hg.last,hg.n0⟩ (jM (n:=1) (size:=1) (cap:=1) k5 rfl (N0 1)) (by simp) (by simp;omega) (λa l' c e=>by cases e;exact Own.cut_new (N0 _));rw [show [l.value].flatten=l.value by simp,zao] at hsa;unfold xE at hsa;replace hsa:=hid hsa;refine zd [O 0,O 1,O 2,O 3,O 4,O 5,O 6,E 7,E 8] (some 8) (λw'=>Blk w' w.heap.size #[.int .i64 inst,.int .u64 (ballot:Nat)] 171/\w'.cell? ⟨lb,2,none⟩=some (.string (bs l.value))/\True) (by kernel_rfl) (by kernel_rfl) ⟨km4.drew,c24,trivial⟩ ?_
    (repeat (refine za (v:=?_) rfl rfl (λw' h=>?_) (λK k=>?_);rotate_left;obtain⟨f1,f2,_⟩:=h;have e1:=f1.cell;go_simp;(try with_reducible rfl);go_simp;refine k _ ?_;clear k K))
    refine zc rfl (λK hK=>?_);go_wp2;refine hK.out _ _ (λ_=>⟨(km4.alloc _).drew,jz (w:=w4) c24 _,trivial⟩) ?_;clear hK
    (repeat (refine za (v:=?_) rfl rfl (λw' h=>?_) (λK k=>?_);rotate_left;obtain⟨f1,f2,_⟩:=h;have e1:=f1.cell;go_simp;(try with_reducible rfl);go_simp;refine k _ ?_;clear k K))
    rw [← hW5];clear hW5;refine zc rfl (λK hK=>?_);go_wp2_with fail
    refine hsa.out.mono ?_;rintro e w6⟨rfl,ow6,hs6,hW6⟩;go_wp2;refine hK.out _ _ (λhh=>absurd rfl hh) ?_;clear hK;refine ze ?_;go_wp2;go_end0
    exact⟨rfl,ow6,zq.wrap hb1 (by rw [ho1];exact(hs13.trans (hs4.mono (Sub.child t (i+32)))).trans (zq.wrap hb5 hs6)),by rw [hcv.out];exact hW6⟩
theorem Xn(v:Value)(hv:∃a n c,v=.slice a n c)(w:World):Calls prog 252 #[v] w λe w'=>
 e=.returned (.func (.func 304) #[] #[.pointer (some ⟨w.heap.size,0,none⟩)])/\w'=w.alloc (.cells #[v] 172):=by
 obtain⟨a,n,c,rfl⟩:=hv
 go_enter func252,ntmps252
 go_wp2;go_ret
 exact⟨rfl,rfl⟩
theorem zdl(l:List jl)(k:Nat)(x:jl)(h:l[k]?=some x)(j:Nat)(hj:j<3):(l.flatMap zK)[k*3+j]?=(zK x)[j]?:=by
 induction l generalizing k with
 |nil=>simp at h
 |cons y l ih=>
  cases k with
  |zero=>
   simp at h;subst h
   rw [List.flatMap_cons,Nat.zero_mul,Nat.zero_add,U8 (by simp [zK];omega)]
  |succ k=>
   simp at h
   have:=ih k h;rw [List.flatMap_cons,U6 (by simp [zK];omega)];rw [← this]
   congr 1
   simp [zK];omega
theorem YZ(cb:Nat)(v:Value)(l:List jl)(hlen:l.length<=1073741824):
 XG Fence.wide 2 prog 304 #[.pointer (some ⟨cb,0,none⟩)] (λx:jl=> #[yN x])
  (λ(k:Nat) x=>l[k]?=some x) (λk _=>k+1) (λk=>k=l.length)
  (λ_ W=>Blk W cb #[v] 172/\Src W v 3 l.length (l.flatMap zK)) 0:=by
 intro lp J Jx W hJ hJx hRd hY h0;obtain⟨r0,r1⟩:=hRd _ _ _ h0;have e0:=r0.cell;have hF:Fence.wide.fn 304:=trivial;have hro:Fence.wide.round=none:=rfl
 rcases r1.2 with⟨rfl,hn⟩|⟨b,off,cap,rfl,hc, -⟩
 ·obtain rfl:l=[]:=N9 hn
  clear r0 r1;refine callsIn_of_wp func304 rfl hF ?_ hro;simp only [ntmps304,R8,Nat.reduceAdd,Nat.reduceSub]
  gi_wp2
  gi_loopw [7] (λp wr=>p=.int .i64 0/\wr=W) (λp _=>0)
  case atStart=>exact⟨rfl,rfl⟩
  case round=>
   obtain⟨rfl,rfl⟩:=hrel
   gi_wp2
   go_end0
   exact⟨⟨_,rfl⟩,.inl ⟨0,_,rfl,h0⟩⟩
 ·clear r0 r1
  refine callsIn_of_wp func304 rfl hF ?_ hro;simp only [ntmps304,R8,Nat.reduceAdd,Nat.reduceSub]
  gi_wp2
  gi_loopw [7] (λp wr=>∃(k:Nat)(X:Nat->Prop),p=.int .i64 (k:Int)/\k<=l.length/\J k X wr) (λp _=>l.length - (intOf p).toNat)
  case atStart=>exact⟨0,_,rfl,Nat.zero_le _,h0⟩
  case round=>
   obtain⟨k,X,rfl,hk,hJs⟩:=hrel;clear e0
   by_cases hlt:k<l.length
   ·obtain⟨x,hx⟩:∃x,l[k]?=some x:=⟨_,N3 hlt⟩
    obtain⟨-,r1⟩:=hRd _ _ _ hJs
    rcases r1.2 with⟨h, -⟩|⟨b',off',cap',h, -,hr⟩
    ·cases h
    ·cases h
     have hcell:∀j,j<3->wr.cell? ⟨b,off+(k*3+j),none⟩=(zK x)[j]?:=λj hj=>by
      have h1:=zdl l k x hx j hj
      cases hu:(zK x)[j]? with
      |none=>simp [zK] at hu;omega
      |some u=>exact hr _ u (h1.trans hu)
     have c0:wr.cell? ⟨b,off+k*3,none⟩=(zK x)[0]?:=hcell 0 (by omega);have c1:wr.cell? ⟨b,off+k*3+1,none⟩=(zK x)[1]?:=hcell 1 (by omega);have c2:wr.cell? ⟨b,off+k*3+2,none⟩=(zK x)[2]?:=hcell 2 (by omega);have hY':=hY k x _ _ (hJ.alloc (.cells (zK x).toArray 317) hJs) hx;obtain⟨p,b,s⟩:=x;simp only [zK] at c0 c1 c2 hY';simp only [List.getElem?_cons_zero,List.getElem?_cons_succ] at c0 c1 c2;clear hcell hr r1;obtain⟨fn,tmps,assign,body,hy,hR⟩:=hY';unfold yN at hy
     gi_wp2
     refine hR.mono ?_;rintro e W'(⟨rfl,hJ', -⟩|⟨rfl,hx'⟩)
     ·clear c0 c1 c2 hR hy
      gi_wp2
      go_roundw
      case rel=>exact⟨k+1,_,by go_num,by omega,hJ'⟩
      case measure=>simp [intOf];omega
     ·gi_wp2
      refine bodyPost_ret (results_none rfl _ _ _) rfl ?_;exact⟨⟨_,rfl⟩,.inr ⟨_,hx'⟩⟩
   ·obtain rfl:k=l.length:=by omega
    gi_wp2
    go_end0
    exact⟨⟨_,rfl⟩,.inl ⟨l.length,X,rfl,hJs⟩⟩
theorem zkm {w W0 W:World}{v:Value}{xs:List Value}{n:Nat}(h:Src W0 v 3 n xs)(hb:∀a m c,v=.slice (some a) m c->a.block<w.heap.size∨n=0)(hm:Mod (λk=>k=w.heap.size) W0 W)(hw:w.heap.size<=W0.heap.size):Src W v 3 n xs:=by
 refine⟨h.1,?_⟩
 rcases h.2 with h0|⟨b,off,cap,rfl,hc,hr⟩
 ·exact .inl h0
 ·refine .inr ⟨b,off,cap,rfl,hc,λj u hu=>?_⟩
  rcases hb _ _ _ rfl with h1|h1
  ·have h2:b<w.heap.size:=h1
   exact(hm.cell (p:=⟨b,off+j,none⟩) (by show b<_;omega) (by show¬b=_;omega)).trans (hr j u hu)
  ·have:=(N6.1 hu).1
   rw [h.1,h1] at this;simp at this
def zk7(l:List jl)(rb:Nat)(W0:World)(k:Nat)(X:Nat->Prop)(W:World):Prop:=
 Fr (λk=>k=rb) W0 X W/\Blk W rb #[.bool true] 4/\(l.take k).all j7=true
theorem zk7.step {l:List jl}{rb:Nat}{W0:World}{k:Nat}{X X':Nat->Prop}{W W':World}(h:zk7 l rb W0 k X W)(hr:rb<W0.heap.size)(hm:Mod X W W')(hx:∀k,X' k->X k∨(W.heap.size<=k/\k<W'.heap.size)):zk7 l rb W0 k X' W':=
 ⟨h.1.step hm hx,h.2.1.kept (h.1.block hm hr),h.2.2⟩
theorem zbT(v:Value)(l:List jl)(w:World)(hv:Src w v 3 l.length (l.flatMap zK))(hl:l.length<=1000):Calls prog 250 #[v] w λe w'=>e=.returned (.bool (l.all j7))/\Below w.heap.size w w':=by
 refine zl func250 rfl ?_;simp only [ntmps250,R8,Nat.reduceAdd,Nat.reduceSub];go_wp2;go_step3;go_wp2;go_step3
 go_wp2_with (go_at_call 252;refine(Xn v (by rcases hv.2 with⟨rfl, -⟩|⟨b,off,cap,rfl, -⟩<;>exact⟨_,_,_,rfl⟩) _).mono ?_;rintro e w1 ⟨rfl,rfl⟩)
 obtain⟨W0,hW0⟩:∃W0,W0=(w.alloc (.cells #[.bool true] 4)).alloc (.cells #[v] 172):=⟨_,rfl⟩;have hb0:Below w.heap.size w W0:=by rw [hW0];exact pbx
 have hz0:W0.heap.size=w.heap.size+2:=by rw [hW0];simp
 have kr:Blk W0 w.heap.size #[.bool true] 4:=by rw [hW0];exact bkx
 have kc:Blk W0 (w.heap.size+1) #[v] 172:=by rw [hW0];exact Blk.new (by simp)
 have hs0:=hv.below hb0
 have hsb:∀a n c,v=.slice (some a) n c->a.block<w.heap.size∨l.length=0:=λa n c e=>by
  rcases hv.2 with⟨h,h0⟩|⟨b,off,cap,h, -,hr⟩
  ·exact .inr h0
  ·by_cases h0:l.length=0
   ·exact .inr h0
   ·left
    rw [h] at e;cases e
    obtain⟨x,hx⟩:∃x,(l.flatMap zK)[0]?=some x:=⟨_,N3 (by rw [JQ];omega)⟩;exact jH (hr 0 x hx)
 rw [← hW0];clear hW0
 refine yS (gf:=304) (lb:=#[.pointer (some ⟨w.heap.size+1,0,none⟩)]) rfl (enters_of func304 (by kernel_rfl) rfl)
  (YZ (w.heap.size+1) v l (by omega)) (λ_=>rfl)
  (λk X W=>zk7 l w.heap.size W0 k X W)
  (λc X W=>c=.exit 0/\Fr (λk=>k=w.heap.size) W0 X W/\Blk W w.heap.size #[.bool false] 4/\l.all j7=false)
  (λk X X' W W' h hm hx=>h.step (by omega) hm hx)
  (λc s X X' W W' h hm hx=>⟨h.1,h.2.1.step hm hx,h.2.2.1.kept (h.2.1.block hm (by omega)),h.2.2.2⟩)
  (λk X W h=>⟨kc.mod h.1.2 (by omega),zkm hs0 hsb h.1.2 (by omega)⟩)
  (λk X W h=>⟨h.1.2.size,λk hk=>(h.1.1 k hk).2⟩)
  ⟨Fr.refl _ _,kr,rfl⟩
  4 317 (λx=> #[.int .u64 (x.1:Nat),.int .u64 (x.2.1:Nat),.string (bs x.2.2)]) ?assign ?body ?done ?stop
 case assign=>
  intro l' x W K hK;rw [zZ] at hK⊢;unfold yN at hK⊢
  gi_wp2
  exact hK
 case body=>
  rintro l' k x cb X X1 W1 W h1⟨hfr,kb,hall⟩ hnx hcb hcw hXc kx hXl _;have hri:=λW=>Yq x W
  unfold yN at hri;rw [zZ];unfold yN
  have htk:(l.take (k+1)).all j7=((l.take k).all j7 && j7 x):=by
   rw [List.take_add_one,hnx];simp
  have hmem:x∈l:=List.mem_of_getElem? hnx;have c0:=kx.cell;obtain⟨x1,x2,x3⟩:=x;simp only at c0 hri kx;replace hri:=hid hri;replace hnx:=hid hnx
  cases hq:j7 (x1,x2,x3)with
  |true=>
   rw [hq] at htk hri
   gi_wp2_with (gi_at_call 303;refine(inRound _ _ (hri.out _)).mono ?_;rintro e w1 ⟨rfl,hb1⟩)
   have hm:Mod (λk=>k=w.heap.size) W w1:=Mod.of_below _ hb1;exact⟨⟨hfr.mod hm (λk _ h=>h),kb.call hb1,by rw [htk,hall];rfl⟩,jB.of_mod (Mod.of_below (λ_=>False) hb1) (λk _ hX he=>he)⟩
  |false=>
   rw [hq] at hri
   have hal:l.all j7=false:=by
    rw [List.all_eq_false];exact⟨_,hmem,by rw [hq];simp⟩
   gi_wp2_with (gi_at_call 303;refine(inRound _ _ (hri.out _)).mono ?_;rintro e w1 ⟨rfl,hb1⟩;have kb1:=kb.call hb1;have fb1:=kb1.frozen;have eb1:=kb1.cell;have lb1:=kb1.lt)
   have hm:Mod (λk=>k=w.heap.size) W (w1.setCell ⟨w.heap.size,0,none⟩ (.bool false)):=(Mod.of_below (λk=>k=w.heap.size) hb1).thenSet (p:=⟨w.heap.size,0,none⟩) rfl _;exact⟨⟨rfl,hfr.mod hm (λk _ h=>h),kb1.set _,hal⟩,jB.of_mod hm (λk _ hX he=>by have:=hfr.1 k hX;omega)⟩
 case done=>
  rintro D k X W hD hXD hfin⟨hfr,kb,hall⟩ hdef;obtain rfl:k=l.length:=hfin;rw [List.take_length] at hall;have eb:=kb.cell;have hbW:Below w.heap.size w W:=hb0.trans (hfr.below (by omega) (λk h=>by omega));go_wp2;rw [Exit.noGoto_ret];go_wp2;exact z8 (D:=D) (v:=.bool true) hdef (by simp [results,Tryz.results250,go_sem]) ⟨by rw [hall],zN hbW (by omega) _⟩
 case stop=>
  rintro D c X W hD hXD⟨rfl,hfr,kb,hall⟩ hdef;have eb:=kb.cell;have hbW:Below w.heap.size w W:=hb0.trans (hfr.below (by omega) (λk h=>by omega));go_wp2;rw [Exit.noGoto_ret];go_wp2;exact z8 (D:=D) (v:=.bool false) hdef (by simp [results,Tryz.results250,go_sem]) ⟨by rw [hall],zN hbW (by omega) _⟩
