/- PARTS OF THE PROOF. -/
import Derived.Laws.Bits64
import Derived.Laws.Bits64b
import Derived.Shelf.Spec.TrailingZeros
import Derived.Test.YtofppfoioodblaaGreatDoorTT05
import Derived.Test.YtofppfoioodblaaGreatDoorTT09
import Derived.Test.YtofppfoioodblaaGreatDoorTT11
set_option maxRecDepth 8000
set_option maxHeartbeats 4000000
open Go.Proofs.Tryz
namespace Go.Proofs.YtofppfoioodblaaGreatDoor
section
open Go Go.RowKit Go.Shelf Go.Extern.Stop Go.Stop Go.Extern
attribute [local go_sem] Oper.semAt_some zv zm
def ZH:Value:=.agg #[]
def YO(p:vU):Prop:=(∀q∈p.waits,q.2.1=q.1)/\(p.waits.map (·.1)).Nodup/\p.waits.length<=1000
def xl(wb db:Nat):Array Value:=#[.map (some wb),.map (some db)]
def jU(B:Nat)(p:vU)(t:List Nat)(ow:Own)(W:World):Prop:=
 YO p/\∃wb db,Blk W B (xl wb db) 231/\jc W wb idV (p.waits.map λq=>(q.1,vo q.2))/\jc W db idV (p.done.map λq=>(q.1,ZH))/\wb≠db/\ow B=t/\ow wb=t/\ow db=t
theorem jU.loc(B:Nat)(p:vU)(t:List Nat):yK t (jU B p t):=by
 rintro ow ow' W W'⟨hl,vb,kb,hB,hv,hk,hne,o1,o2,o3⟩ hs hkk;have kB:=hkk B hB.lt (by rw [o1];exact Sub.rfl' t);have kv:=hkk vb hv.lt (by rw [o2];exact Sub.rfl' t);have kk:=hkk kb hk.lt (by rw [o3];exact Sub.rfl' t);exact⟨hl,vb,kb,hB.kept kB.2,hv.kept kv.2,hk.kept kk.2,hne,kB.1.trans o1,kv.1.trans o2,kk.1.trans o3⟩
def ziH(B:Nat)(p:vU)(t:List Nat)(ow:Own)(w:World)(v:Value)(e:Ending)(w':World):Prop:=
 e=.returned v/\∃ow',zq t ow w ow' w'/\jU B p t ow' w'
def zcz(t:List Nat)(ow:Own)(w:World)(e:Ending)(w':World):Prop:=
 ∃B ow',e=.returned (.pointer (some ⟨B,0,none⟩))/\zq t ow w ow' w'/\Below w.heap.size w w'/\jU B qD t ow' w'/\w.heap.size<=B
theorem zgK(t:List Nat)(ow:Own)(w:World):Calls prog 89 #[] w (zcz t ow w):=by
 have hmm:= @run_makeMap prog
 go_enter func89,ntmps89
 go_wp2;go_ret
 have hb:Below w.heap.size w (((w.alloc (.map #[] 0)).alloc (.map #[] 0)).alloc (.cells #[.map (some w.heap.size),.map (some (w.heap.size+1))] 231)):=pbx;refine⟨w.heap.size+2,ow.ext w.heap.size (λ_=>True) t,rfl,⟨Mod.of_below _ hb,λk hk=>Own.ext_old hk⟩,hb,⟨⟨by simp [qD],by simp [qD],by simp [qD]⟩,w.heap.size,w.heap.size+1,Blk.new (by simp),?_,?_,by omega,Own.ext_new (by omega) trivial,Own.ext_new (by omega) trivial,Own.ext_new (by omega) trivial⟩,by omega⟩
 ·exact((jc.made w idV).kept (U4 _ _ _ (by simp))).kept (U4 _ _ _ (by simp;omega))
 ·have h:=(jc.made (w.alloc (.map #[] 0)) idV).kept (U4 (w.alloc (.map #[] 0)|>.alloc (.map #[] 0)) (.cells #[.map (some w.heap.size),.map (some (w.heap.size+1))] 231) _ (by simp))
  simpa [qD] using h
theorem XL(b:Nat)(w:World):(binOp .eql 228 (.map (some b)) (.map none)).run prog w=.ok (.bool false) w:=by kernel_rfl
theorem zgL(w:World):(zeroValue 294).run prog w=.ok (.agg #[.int .i64 0,.int .u32 0,.string ⟨#[]⟩]) w:=by kernel_rfl
theorem zgM(w:World):(zeroValue 190).run prog w=.ok ZH w:=by kernel_rfl
theorem Jy(B:Nat)(wb db:Nat)(w:World)(hB:Blk w B (xl wb db) 231):Calls prog 182 #[.pointer (some ⟨B,0,none⟩)] w λe w'=>e=.returned (.bool false)/\w'=w:=by
 unfold xl at hB;have e0:=hB.cell;have h0:=XL wb w
 go_enter func182,ntmps182
 go_wp2;go_ret
 exact⟨rfl,rfl⟩
theorem zdP(B:Nat)(p:vU)(t:List Nat)(ow:Own)(i:Int)(c:Nat)(w:World)(h:jU B p t ow w):
 Calls prog 183 #[.pointer (some ⟨B,0,none⟩),.agg #[.int .i64 i,.int .u32 c]] w λe w'=>e=.returned (.bool (zD (i,c) p.done).isSome)/\Below w.heap.size w w':=by
 obtain⟨hl,wb,db,hB,hv,hk,hne,o1,o2,o3⟩:=h;have hnil:=λW hW=>Jy B wb db W hW
 unfold xl at hB hnil
 have hlk:∀W,Below w.heap.size w W->(Instr.lookup 229 (.map (some db)) (.agg #[.int .i64 i,.int .u32 c]) true).run prog W=.ok (.tuple #[.agg #[],.bool (zD (i,c) p.done).isSome]) W:=λW hW=>by
  have hlk:=(hk.kept (hW.block db hk.lt)).lookup_ok QM Tryz.underlying229 (zgM W) (i,c);have hlm:=xx (λ_:Unit=>ZH) ((i,c):MId) p.done;rw [hlm,Option.isSome_map,show((zD (i,c) p.done).map λ_=>ZH).getD ZH=ZH by cases zD (i,c) p.done<;>rfl] at hlk;exact hlk
 clear hv hk hl
 generalize(zD (i,c) p.done).isSome=b at*
 replace hnil:=hid hnil;replace hlk:=hid hlk;have hBA:=hB.alloc (.cells #[.int .i64 i,.int .u32 c] 76);have hX:Blk (w.alloc (.cells #[.int .i64 i,.int .u32 c] 76)) w.heap.size #[.int .i64 i,.int .u32 c] 76:=Blk.new rfl;replace hB:=hid hB
 go_enter func183,ntmps183
 go_wp2_with fail
 refine(hnil.out _ hBA).mono ?_;rintro e w1⟨rfl,rfl⟩;go_wp2_with fail
 refine zd [O 0,O 1,O 2,O 3,O 4,O 5,O 6,O 7,O 8,E 9,E 10,O 11] none (λw'=>Blk w' B #[.map (some wb),.map (some db)] 231/\Blk w' w.heap.size #[.int .i64 i,.int .u32 c] 76/\(Instr.lookup 229 (.map (some db)) (.agg #[.int .i64 i,.int .u32 c]) true).run prog w'=.ok (.tuple #[.agg #[],.bool b]) w'/\True) (by kernel_rfl) (by kernel_rfl) ⟨hBA.drew,hX.drew,hlk.out _ (pbx),trivial⟩ ?_
 (repeat (refine za (v:=?_) rfl rfl (λw' h=>?_) (λK k=>?_);rotate_left;obtain⟨f1,f2,f3,_⟩:=h;have e1:=f1.cell;have e2:=f2.cell;(try have e3:=f3.cell);go_simp;(try with_reducible rfl);go_simp;refine k _ ?_;clear k K))
 refine zc rfl (λK hK=>?_);go_wp2;refine hK.out _ _ (λ_=>⟨hBA.drew.alloc _,hX.drew.alloc _,hlk.out _ (pbx),trivial⟩) ?_;clear hK K;refine zc rfl (λK hK=>?_);go_wp2;refine hK.out _ _ (λ_=>⟨hBA.drew.alloc _,hX.drew.alloc _,hlk.out _ (pbx),trivial⟩) ?_;clear hK K
 (repeat (refine za (v:=?_) rfl rfl (λw' h=>?_) (λK k=>?_);rotate_left;obtain⟨f1,f2,f3,_⟩:=h;have e1:=f1.cell;have e2:=f2.cell;(try have e3:=f3.cell);go_simp;(try with_reducible rfl);go_simp;refine k _ ?_;clear k K))
 refine ze ?_;go_wp2;go_ret
 exact⟨rfl,pbx⟩
theorem zdQ {V:Type}(k:MId)(v:V):∀(l:List (MId×V)),(put k v l).map (·.1)=if k∈l.map (·.1)then l.map (·.1)else l.map (·.1)++ [k]
 | []=>by simp [put]
 |(k',v')::l=>by
  have ih:=zdQ k v l;unfold put
  by_cases h:k=k'
  ·subst h;simp
  ·rw [if_neg h]
   simp only [List.map_cons,ih,List.mem_cons,h,false_or]
   split<;>simp
theorem zgN {V:Type}(k:MId)(v:V):∀(l:List (MId×V)) (q),q∈put k v l->q=(k,v)∨q∈l
 | [],q,h=>by simpa [put] using h
 |(k',v')::l,q,h=>by
  unfold put at h
  split at h
  ·rcases List.mem_cons.1 h with h|h
   ·exact .inl h
   ·exact .inr (U7 _ h)
  ·rcases List.mem_cons.1 h with h|h
   ·exact .inr (h ▸ List.mem_cons_self ..)
   ·rcases zgN k v l q h with h|h
    ·exact .inl h
    ·exact .inr (U7 _ h)
theorem zdR {V:Type}(k:MId)(v:V):∀(l:List (MId×V)),(put k v l).length<=l.length+1
 | []=>by simp [put]
 |(k',v')::l=>by
  have ih:=zdR k v l;unfold put
  split
  ·simp
  ·simp;omega
theorem zdS {V:Type}(k:MId):∀(l:List (MId×V)),(del k l).length<=l.length
 | []=>by simp [del]
 |(k',v')::l=>by
  have ih:=zdS k l;unfold del
  split
  ·simp
  ·simp;omega
theorem YO.add {p:vU}(h:YO p)(m:zy)(hl:p.waits.length<1000):YO {p with waits:=put m.1 m p.waits} :=by
 refine⟨λq hq=>?_,?_,?_⟩
 ·rcases zgN _ _ _ _ hq with rfl|hq
  ·rfl
  ·exact h.1 q hq
 ·show((put m.1 m p.waits).map (·.1)).Nodup
  rw [zdQ]
  split
  ·exact h.2.1
  ·rename_i hn
   rw [List.nodup_append];exact⟨h.2.1,by simp,λa ha b hb=>by simp at hb;subst hb;exact λe=>hn (e ▸ ha)⟩
 ·have:=zdR m.1 m p.waits
  show(put m.1 m p.waits).length<=1000
  omega
theorem YO.less {p:vU}(h:YO p)(k:MId)(d:List (MId×Unit)):YO {waits:=del k p.waits,done:=d} :=by
 refine⟨λq hq=>h.1 q (zcp _ _ _ hq),?_,Nat.le_trans (zdS _ _) h.2.2⟩
 show((del k p.waits).map (·.1)).Nodup
 have:∀l:List (MId×zy),((del k l).map (·.1)).Sublist (l.map (·.1)):=by
  intro l
  induction l with
  |nil=>simp [del]
  |cons x l ih=>
   obtain⟨k',v'⟩:=x;unfold del
   split
   ·exact List.sublist_cons_self _ _
   ·exact ih.cons_cons _
 exact(this p.waits).nodup h.2.1
theorem zgO {P:Program}{W:World}{b n:Nat}{es:Array MapEntry}{ck:Nat}(h:W.heap[b]?=some (.map es ck))(hs:es.size=n){mt kt et:TypeId}(hm:P.underlying mt=some (.map kt et))(rt:TypeId):(Builtin.len_ #[mt] rt #[.map (some b)]).run P W=.ok (.int .i64 n) W:=by
 simp [Builtin.len_,run_underlying hm,j3 h,hs,goInt]
theorem zgP(B:Nat)(p:vU)(t:List Nat)(ow:Own)(m:zy)(w:World)(h:jU B p t ow w):
 Calls prog 139 #[.pointer (some ⟨B,0,none⟩),vo m] w (ziH B (zeL p m).1 t ow w (.int .i64 (zeL p m).2)):=by
 obtain⟨⟨i,c⟩,d⟩:=m;have h0:=h;obtain⟨hok,wb,db,hB,hv,hk,hne,o1,o2,o3⟩:=h;have hnil:=λW hW=>Jy B wb db W hW
 have hright:=λW=>vH i c d W
 have hisd:=λW hW=>zdP B p t ow i c W hW
 unfold xl at hB hnil;unfold vo;have hap:zeL p ((i,c),d)=if zB ((i,c),d)=false then(p,100)else if(zD (i,c) p.waits).isSome∨(zD (i,c) p.done).isSome then(p,0)else if 1000<=p.waits.length then(p,120)else({p with waits:=put (i,c) ((i,c),d) p.waits},0):=rfl
 have hlk:∃a b x,∀W,Below w.heap.size w W->(Instr.lookup 228 (.map (some wb)) (.agg #[.int .i64 i,.int .u32 c]) true).run prog W=.ok (.tuple #[.agg #[.int .i64 a,.int .u32 b,.string x],.bool (zD (i,c) p.waits).isSome]) W:=by
  have hlk:=λW (hW:Below w.heap.size w W)=>(hv.kept (hW.block wb hv.lt)).lookup_ok QM Tryz.underlying228 (zgL W) (i,c)
  simp only [xx,Option.isSome_map] at hlk
  cases hl:zD (i,c) p.waits with
  |none=>rw [hl] at hlk;exact⟨_,_,_,hlk⟩
  |some y=>rw [hl] at hlk;exact⟨_,_,_,hlk⟩
 obtain⟨la,lb,lx,hlk⟩:=hlk
 cases hr:zB ((i,c),d)
 ·rw [if_pos hr] at hap
  rw [hap];rw [hr] at hright;replace hap:=hid hap;replace hright:=hid hright;replace hnil:=hid hnil;replace h0:=hid h0;replace hr:=hid hr;have hBA:=hB.alloc (.cells #[.int .i64 i,.int .u32 c,.string (bs d)] 78);replace hB:=hid hB;clear hv hk hlk hisd
  go_enter func139,ntmps139
  go_wp2_with fail
  refine(hnil.out _ hBA).mono ?_;rintro e w1⟨rfl,rfl⟩;go_wp2_with fail
  refine(hright.out _).mono ?_;rintro e w2⟨rfl,hb2⟩;go_wp2;go_ret
  exact⟨rfl,ow,zq.of_below t ow (pbx),(jU.loc B p t).below h0.out (pbx)⟩
 ·rw [if_neg (by simp [hr])] at hap
  rw [hr] at hright;replace hright:=hid hright;replace hnil:=hid hnil;replace hr:=hid hr;replace h0:=hid h0;have hBA:=hB.alloc (.cells #[.int .i64 i,.int .u32 c,.string (bs d)] 78)
  cases hw:(zD (i,c) p.waits).isSome
  ·rw [hw] at hlk hap
   replace hlk:=hid hlk;replace hw:=hid hw
   cases hd:(zD (i,c) p.done).isSome
   ·rw [hd] at hisd hap
    rw [if_neg (by simp)] at hap;replace hisd:=hid hisd;replace hd:=hid hd;obtain⟨es,ck,hes,hesz⟩:=hv.size;rw [List.length_map] at hesz
    by_cases hfull:1000<=p.waits.length
    ·rw [if_pos hfull] at hap
     rw [hap];replace hap:=hid hap
     go_enter func139,ntmps139
     go_wp2_with fail
     refine(hnil.out _ hBA).mono ?_;rintro e w1⟨rfl,rfl⟩;go_wp2_with fail
     refine(hright.out _).mono ?_;rintro e w2⟨rfl,hb2⟩;have kB2:=hBA.call hb2;have kX2:Blk w2 w.heap.size #[.int .i64 i,.int .u32 c,.string (bs d)] 78:=Blk.call (bkx) hb2;have hbw2:Below w.heap.size w w2:=pbx;clear hb2;go_wp2_with fail
     refine zd [O 0,O 1,O 2,O 3,O 4,O 5,O 6,O 7,O 8,O 9,E 10,E 11,O 12] none (λw'=>Blk w' B #[.map (some wb),.map (some db)] 231/\Blk w' w.heap.size #[.int .i64 i,.int .u32 c,.string (bs d)] 78/\(Instr.lookup 228 (.map (some wb)) (.agg #[.int .i64 i,.int .u32 c]) true).run prog w'=.ok (.tuple #[.agg #[.int .i64 la,.int .u32 lb,.string lx],.bool false]) w'/\True) (by kernel_rfl) (by kernel_rfl) ⟨kB2.drew,kX2.drew,hlk.out _ (pbx),trivial⟩ ?_
     (repeat (refine za (v:=?_) rfl rfl (λw' h=>?_) (λK k=>?_);rotate_left;obtain⟨f1,f2,f3,_⟩:=h;have e1:=f1.cell;have e2:=f2.cell;(try have e3:=f3.cell);go_simp;(try with_reducible rfl);go_simp;refine k _ ?_;clear k K))
     refine zc rfl (λK hK=>?_);go_wp2;refine hK.out _ _ (λ_=>⟨kB2.drew.alloc _,kX2.drew.alloc _,hlk.out _ (pbx),trivial⟩) ?_;clear hK K;refine zc rfl (λK hK=>?_);go_wp2;refine hK.out _ _ (λ_=>⟨kB2.drew.alloc _,kX2.drew.alloc _,hlk.out _ (pbx),trivial⟩) ?_;clear hK K
     (repeat (refine za (v:=?_) rfl rfl (λw' h=>?_) (λK k=>?_);rotate_left;obtain⟨f1,f2,f3,_⟩:=h;have e1:=f1.cell;have e2:=f2.cell;(try have e3:=f3.cell);go_simp;(try with_reducible rfl);go_simp;refine k _ ?_;clear k K))
     refine ze ?_;obtain⟨W3,hW3⟩:∃W3,W3=(w2.alloc (.cells #[.int .i64 la,.int .u32 lb,.string lx] 294)).drew:=⟨_,rfl⟩;have hb3:Below w.heap.size w W3:=by rw [hW3];exact zo (zi hbw2 _)
     have kB3:Blk W3 B #[.map (some wb),.map (some db)] 231:=by rw [hW3];exact(kB2.alloc _).drew
     have kX3:Blk W3 w.heap.size #[.int .i64 i,.int .u32 c,.string (bs d)] 78:=by rw [hW3];exact(kX2.alloc _).drew
     rw [← hW3];clear hW3 kB2 kX2 hbw2;have cX3:=kX3.cell;have lX3:=kX3.lt;go_wp2_with fail
     refine(hisd.out _ ((jU.loc B p t).below h0.out hb3)).mono ?_;rintro e w4⟨rfl,hb4⟩;have kB4:=kB3.call hb4;have kX4:=kX3.call hb4;have cB4:=kB4.cell;have hbw4:=zg hb3 hb4;clear cX3 lX3;have kM4:w4.heap[wb]?=some (.map es ck):=(hbw4.block wb hv.lt).trans hes;have hlm:=λrt=>zgO (P:=prog) kM4 hesz Tryz.underlying228 rt
     have t1:decide ((1000:Int)<=(p.waits.length:Int))=true:=by simp;omega
     go_wp2;go_ret
     exact⟨rfl,ow,zq.of_below t ow hbw4,(jU.loc B p t).below h0.out hbw4⟩
    ·rw [if_neg hfull] at hap
     rw [hap];replace hap:=hid hap
     go_enter func139,ntmps139
     go_wp2_with fail
     refine(hnil.out _ hBA).mono ?_;rintro e w1⟨rfl,rfl⟩;go_wp2_with fail
     refine(hright.out _).mono ?_;rintro e w2⟨rfl,hb2⟩;have kB2:=hBA.call hb2;have kX2:Blk w2 w.heap.size #[.int .i64 i,.int .u32 c,.string (bs d)] 78:=Blk.call (bkx) hb2;have hbw2:Below w.heap.size w w2:=pbx;clear hb2;go_wp2_with fail
     refine zd [O 0,O 1,O 2,O 3,O 4,O 5,O 6,O 7,O 8,O 9,E 10,E 11,O 12] none (λw'=>Blk w' B #[.map (some wb),.map (some db)] 231/\Blk w' w.heap.size #[.int .i64 i,.int .u32 c,.string (bs d)] 78/\(Instr.lookup 228 (.map (some wb)) (.agg #[.int .i64 i,.int .u32 c]) true).run prog w'=.ok (.tuple #[.agg #[.int .i64 la,.int .u32 lb,.string lx],.bool false]) w'/\True) (by kernel_rfl) (by kernel_rfl) ⟨kB2.drew,kX2.drew,hlk.out _ (pbx),trivial⟩ ?_
     (repeat (refine za (v:=?_) rfl rfl (λw' h=>?_) (λK k=>?_);rotate_left;obtain⟨f1,f2,f3,_⟩:=h;have e1:=f1.cell;have e2:=f2.cell;(try have e3:=f3.cell);go_simp;(try with_reducible rfl);go_simp;refine k _ ?_;clear k K))
     refine zc rfl (λK hK=>?_);go_wp2;refine hK.out _ _ (λ_=>⟨kB2.drew.alloc _,kX2.drew.alloc _,hlk.out _ (pbx),trivial⟩) ?_;clear hK K;refine zc rfl (λK hK=>?_);go_wp2;refine hK.out _ _ (λ_=>⟨kB2.drew.alloc _,kX2.drew.alloc _,hlk.out _ (pbx),trivial⟩) ?_;clear hK K
     (repeat (refine za (v:=?_) rfl rfl (λw' h=>?_) (λK k=>?_);rotate_left;obtain⟨f1,f2,f3,_⟩:=h;have e1:=f1.cell;have e2:=f2.cell;(try have e3:=f3.cell);go_simp;(try with_reducible rfl);go_simp;refine k _ ?_;clear k K))
     refine ze ?_;obtain⟨W3,hW3⟩:∃W3,W3=(w2.alloc (.cells #[.int .i64 la,.int .u32 lb,.string lx] 294)).drew:=⟨_,rfl⟩;have hb3:Below w.heap.size w W3:=by rw [hW3];exact zo (zi hbw2 _)
     have kB3:Blk W3 B #[.map (some wb),.map (some db)] 231:=by rw [hW3];exact(kB2.alloc _).drew
     have kX3:Blk W3 w.heap.size #[.int .i64 i,.int .u32 c,.string (bs d)] 78:=by rw [hW3];exact(kX2.alloc _).drew
     rw [← hW3];clear hW3 kB2 kX2 hbw2;have cX3:=kX3.cell;have lX3:=kX3.lt;go_wp2_with fail
     refine(hisd.out _ ((jU.loc B p t).below h0.out hb3)).mono ?_;rintro e w4⟨rfl,hb4⟩;have kB4:=kB3.call hb4;have kX4:=kX3.call hb4;have cB4:=kB4.cell;have hbw4:=zg hb3 hb4;clear cX3 lX3;have kM4:w4.heap[wb]?=some (.map es ck):=(hbw4.block wb hv.lt).trans hes;have hlm:=λrt=>zgO (P:=prog) kM4 hesz Tryz.underlying228 rt
     have t1:decide ((1000:Int)<=(p.waits.length:Int))=false:=by simp;omega
     have hm4:jc w4 wb idV (p.waits.map λq=>(q.1,vo q.2)):=hv.kept (hbw4.block wb hv.lt);obtain⟨o,hu,hm⟩:=(hm4.kept (w':=w4.drew) rfl).update QM Tryz.underlying228 ((i,c):MId) (vo ((i,c),d));rw [Yb vo] at hm;unfold vo idV at hu;have hneB:B≠wb:=hB.ne_map hv;have hneX:w.heap.size≠wb:=by have:=hv.lt;omega
     have hwlt:=hm4.lt;replace hm:=hid hm;go_wp2_with fail
     refine zd [O 0,O 1,O 2,O 3,O 4,O 5,O 6,E 7,E 8] none (λw'=>Blk w' B #[.map (some wb),.map (some db)] 231/\Blk w' w.heap.size #[.int .i64 i,.int .u32 c,.string (bs d)] 78/\True) (by kernel_rfl) (by kernel_rfl) ⟨kB4.drew,kX4.drew,trivial⟩ ?_
     (repeat (refine za (v:=?_) rfl rfl (λw' h=>?_) (λK k=>?_);rotate_left;obtain⟨f1,f2,f3,_⟩:=h;(try have e1:=f1.cell);(try have e2:=f2.cell);(try have e3:=f3.cell);go_simp;(try with_reducible rfl);go_simp;refine k _ ?_;clear k K))
     refine zc rfl (λK hK=>?_);go_wp2;refine hK.out _ _ (λ_=>⟨kB4.drew,kX4.drew,trivial⟩) ?_;clear hK K;refine zc rfl (λK hK=>?_);go_wp2;refine hK.out _ _ (λ_=>⟨kB4.drew.putObj hneB o,kX4.drew.putObj hneX o,trivial⟩) ?_;clear hK K;refine ze ?_;go_wp2;go_ret
     refine⟨rfl,ow,⟨?_,λ_ _=>rfl⟩,hok.add ((i,c),d) (by omega),wb,db,kB4.drew.putObj hneB o,hm.out,?_,hne,o1,o2,o3⟩
     ·exact((Mod.of_below (λk=>Sub t (ow k)) hbw4).thenDrew).thenPut (by rw [o2];exact Sub.rfl' t) o
     ·exact hk.kept ((U1 (Ne.symm hne)).trans (hbw4.block db hk.lt))
   ·rw [hd] at hisd hap
    rw [if_pos (.inr rfl)] at hap;rw [hap];replace hap:=hid hap;replace hisd:=hid hisd;replace hd:=hid hd
    go_enter func139,ntmps139
    go_wp2_with fail
    refine(hnil.out _ hBA).mono ?_;rintro e w1⟨rfl,rfl⟩;go_wp2_with fail
    refine(hright.out _).mono ?_;rintro e w2⟨rfl,hb2⟩;have kB2:=hBA.call hb2;have kX2:Blk w2 w.heap.size #[.int .i64 i,.int .u32 c,.string (bs d)] 78:=Blk.call (bkx) hb2;have hbw2:Below w.heap.size w w2:=pbx;clear hb2;go_wp2_with fail
    refine zd [O 0,O 1,O 2,O 3,O 4,O 5,O 6,O 7,O 8,O 9,E 10,E 11,O 12] none (λw'=>Blk w' B #[.map (some wb),.map (some db)] 231/\Blk w' w.heap.size #[.int .i64 i,.int .u32 c,.string (bs d)] 78/\(Instr.lookup 228 (.map (some wb)) (.agg #[.int .i64 i,.int .u32 c]) true).run prog w'=.ok (.tuple #[.agg #[.int .i64 la,.int .u32 lb,.string lx],.bool false]) w'/\True) (by kernel_rfl) (by kernel_rfl) ⟨kB2.drew,kX2.drew,hlk.out _ (pbx),trivial⟩ ?_
    (repeat (refine za (v:=?_) rfl rfl (λw' h=>?_) (λK k=>?_);rotate_left;obtain⟨f1,f2,f3,_⟩:=h;have e1:=f1.cell;have e2:=f2.cell;(try have e3:=f3.cell);go_simp;(try with_reducible rfl);go_simp;refine k _ ?_;clear k K))
    refine zc rfl (λK hK=>?_);go_wp2;refine hK.out _ _ (λ_=>⟨kB2.drew.alloc _,kX2.drew.alloc _,hlk.out _ (pbx),trivial⟩) ?_;clear hK K;refine zc rfl (λK hK=>?_);go_wp2;refine hK.out _ _ (λ_=>⟨kB2.drew.alloc _,kX2.drew.alloc _,hlk.out _ (pbx),trivial⟩) ?_;clear hK K
    (repeat (refine za (v:=?_) rfl rfl (λw' h=>?_) (λK k=>?_);rotate_left;obtain⟨f1,f2,f3,_⟩:=h;have e1:=f1.cell;have e2:=f2.cell;(try have e3:=f3.cell);go_simp;(try with_reducible rfl);go_simp;refine k _ ?_;clear k K))
    refine ze ?_;obtain⟨W3,hW3⟩:∃W3,W3=(w2.alloc (.cells #[.int .i64 la,.int .u32 lb,.string lx] 294)).drew:=⟨_,rfl⟩;have hb3:Below w.heap.size w W3:=by rw [hW3];exact zo (zi hbw2 _)
    have kB3:Blk W3 B #[.map (some wb),.map (some db)] 231:=by rw [hW3];exact(kB2.alloc _).drew
    have kX3:Blk W3 w.heap.size #[.int .i64 i,.int .u32 c,.string (bs d)] 78:=by rw [hW3];exact(kX2.alloc _).drew
    rw [← hW3];clear hW3 kB2 kX2 hbw2;have cX3:=kX3.cell;have lX3:=kX3.lt;go_wp2_with fail
    refine(hisd.out _ ((jU.loc B p t).below h0.out hb3)).mono ?_;rintro e w4⟨rfl,hb4⟩;have kB4:=kB3.call hb4;have kX4:=kX3.call hb4;have cB4:=kB4.cell;have hbw4:=zg hb3 hb4;clear cX3 lX3;go_wp2;go_ret
    exact⟨rfl,ow,zq.of_below t ow hbw4,(jU.loc B p t).below h0.out hbw4⟩
  ·rw [hw] at hlk hap
   rw [if_pos (.inl rfl)] at hap;rw [hap];replace hap:=hid hap;replace hlk:=hid hlk;replace hw:=hid hw;clear hisd
   go_enter func139,ntmps139
   go_wp2_with fail
   refine(hnil.out _ hBA).mono ?_;rintro e w1⟨rfl,rfl⟩;go_wp2_with fail
   refine(hright.out _).mono ?_;rintro e w2⟨rfl,hb2⟩;have kB2:=hBA.call hb2;have kX2:Blk w2 w.heap.size #[.int .i64 i,.int .u32 c,.string (bs d)] 78:=Blk.call (bkx) hb2;have hbw2:Below w.heap.size w w2:=pbx;clear hb2;go_wp2_with fail
   refine zd [O 0,O 1,O 2,O 3,O 4,O 5,O 6,O 7,O 8,O 9,E 10,E 11,O 12] none (λw'=>Blk w' B #[.map (some wb),.map (some db)] 231/\Blk w' w.heap.size #[.int .i64 i,.int .u32 c,.string (bs d)] 78/\(Instr.lookup 228 (.map (some wb)) (.agg #[.int .i64 i,.int .u32 c]) true).run prog w'=.ok (.tuple #[.agg #[.int .i64 la,.int .u32 lb,.string lx],.bool true]) w'/\True) (by kernel_rfl) (by kernel_rfl) ⟨kB2.drew,kX2.drew,hlk.out _ (pbx),trivial⟩ ?_
   (repeat (refine za (v:=?_) rfl rfl (λw' h=>?_) (λK k=>?_);rotate_left;obtain⟨f1,f2,f3,_⟩:=h;have e1:=f1.cell;have e2:=f2.cell;(try have e3:=f3.cell);go_simp;(try with_reducible rfl);go_simp;refine k _ ?_;clear k K))
   refine zc rfl (λK hK=>?_);go_wp2;refine hK.out _ _ (λ_=>⟨kB2.drew.alloc _,kX2.drew.alloc _,hlk.out _ (pbx),trivial⟩) ?_;clear hK K;refine zc rfl (λK hK=>?_);go_wp2;refine hK.out _ _ (λ_=>⟨kB2.drew.alloc _,kX2.drew.alloc _,hlk.out _ (pbx),trivial⟩) ?_;clear hK K
   (repeat (refine za (v:=?_) rfl rfl (λw' h=>?_) (λK k=>?_);rotate_left;obtain⟨f1,f2,f3,_⟩:=h;have e1:=f1.cell;have e2:=f2.cell;(try have e3:=f3.cell);go_simp;(try with_reducible rfl);go_simp;refine k _ ?_;clear k K))
   refine ze ?_;obtain⟨W3,hW3⟩:∃W3,W3=(w2.alloc (.cells #[.int .i64 la,.int .u32 lb,.string lx] 294)).drew:=⟨_,rfl⟩;have hb3:Below w.heap.size w W3:=by rw [hW3];exact zo (zi hbw2 _)
   have kB3:Blk W3 B #[.map (some wb),.map (some db)] 231:=by rw [hW3];exact(kB2.alloc _).drew
   have kX3:Blk W3 w.heap.size #[.int .i64 i,.int .u32 c,.string (bs d)] 78:=by rw [hW3];exact(kX2.alloc _).drew
   rw [← hW3];clear hW3 kB2 kX2 hbw2;have cX3:=kX3.cell;have lX3:=kX3.lt;go_wp2;go_ret
   exact⟨rfl,ow,zq.of_below t ow hb3,(jU.loc B p t).below h0.out hb3⟩
end
open Go
theorem qc(a b:Nat)(ha:a<4294967296)(hb:b<4294967296):bits .xor .u32 (a:Int) (b:Int)=((a ^^^ b:Nat):Int):=by
 have hx:a ^^^ b<2 ^ 32:=Nat.xor_lt_two_pow (by omega) (by omega)
 have h1:(BitVec.ofInt 32 (a:Int)).toNat=a:=by
  rw [BitVec.ofInt_natCast,BitVec.toNat_ofNat];exact Nat.mod_eq_of_lt (by omega)
 have h2:(BitVec.ofInt 32 (b:Int)).toNat=b:=by
  rw [BitVec.ofInt_natCast,BitVec.toNat_ofNat];exact Nat.mod_eq_of_lt (by omega)
 show IntKind.u32.wrap ((BitVec.ofInt 32 (a:Int)^^^ BitVec.ofInt 32 (b:Int)).toNat:Int)=_
 rw [BitVec.toNat_xor,h1,h2,IntKind.wrap_u32];omega
theorem zcA(a b:Nat)(ha:a<4294967296)(hb:b<4294967296):bits .or .u32 (a:Int) (b:Int)=((a|||b:Nat):Int):=by
 have hx:a|||b<2 ^ 32:=Nat.or_lt_two_pow (by omega) (by omega)
 have h1:(BitVec.ofInt 32 (a:Int)).toNat=a:=by
  rw [BitVec.ofInt_natCast,BitVec.toNat_ofNat];exact Nat.mod_eq_of_lt (by omega)
 have h2:(BitVec.ofInt 32 (b:Int)).toNat=b:=by
  rw [BitVec.ofInt_natCast,BitVec.toNat_ofNat];exact Nat.mod_eq_of_lt (by omega)
 show IntKind.u32.wrap ((BitVec.ofInt 32 (a:Int)|||BitVec.ofInt 32 (b:Int)).toNat:Int)=_
 rw [BitVec.toNat_or,h1,h2,IntKind.wrap_u32];omega
theorem zgQ {s:Nat}(h:s<4294967296):YM s<4294967296:=by
 unfold YM
 split
 ·exact Nat.xor_lt_two_pow (n:=32) (by omega) (by omega)
 ·omega
theorem Yk:∀(n:Nat){s:Nat},s<4294967296->Zd n s<4294967296
 |0,_,h=>h
 |n+1,_,h=>Yk n (zgQ h)
theorem YP:∀(n s:Nat),Zd (n+1) s=YM (Zd n s)
 |0,_=>rfl
 |n+1,s=>YP n (YM s)
theorem zeM {s:Nat}(h:s<4294967296)(b:UInt8):vx s b<4294967296:=by
 unfold vx;refine Yk 8 (Nat.xor_lt_two_pow (n:=32) (by omega) ?_);have:=b.toNat_lt;omega
theorem Yl:∀(l:List UInt8){s:Nat},s<4294967296->l.foldl vx s<4294967296
 | [],_,h=>h
 |b::l,_,h=>Yl l (zeM h b)
theorem zgR {s:Nat}(h:s<4294967296):bits .xor .u32 ((s:Int) / 2) (bits .and .u32 3988292384 (IntKind.u32.wrap (-((s:Int)% 2))))=(YM s:Int):=by
 have hd:((s:Int) / 2)=((s / 2:Nat):Int):=by omega
 rw [hd];unfold YM
 by_cases h1:s % 2=1
 ·rw [if_pos h1]
  have e:(s:Int)% 2=1:=by omega
  have h2:bits .and .u32 3988292384 (IntKind.u32.wrap (-1))=((3988292384:Nat):Int):=by decide
  rw [e,h2,qc _ _ (by omega) (by omega)]
 ·rw [if_neg h1]
  have e:(s:Int)% 2=0:=by omega
  have h2:bits .and .u32 3988292384 (IntKind.u32.wrap (-0))=((0:Nat):Int):=by decide
  rw [e,h2,qc _ _ (by omega) (by omega),Nat.xor_zero]
theorem zeN {s:Nat}(h:s<4294967296):bits .xor .u32 ((s:Int) / 2) (bits .and .u32 3988292384 (-bits .and .u32 (s:Int) 1 % 4294967296))=(YM s:Int):=by
 have h1:bits .and .u32 (s:Int) 1=(s:Int)% 2:=by
  have:=bits_and_u32_nat s 1 h (by omega);rw [show((1:Nat):Int)=1 from rfl] at this;rw [this,Nat.and_one_is_mod];omega
 rw [h1,← IntKind.wrap_u32];exact zgR h
theorem zgS(s:Nat)(hs:s<4294967296):bits .xor .u32 IntKind.u32.max (s:Int)=((4294967295 - s:Nat):Int):=by
 have h0:=qc 4294967295 s (by omega) hs;have h1:IntKind.u32.max=((4294967295:Nat):Int):=rfl;rw [h1,h0];have h2:BitVec.allOnes 32 ^^^ BitVec.ofNat 32 s= ~~~(BitVec.ofNat 32 s):=BitVec.allOnes_xor;have h3:=congrArg BitVec.toNat h2;rw [BitVec.toNat_xor,BitVec.toNat_not,BitVec.toNat_allOnes,BitVec.toNat_ofNat,Nat.mod_eq_of_lt (by omega:s<2 ^ 32)] at h3;have h4:(2 ^ 32 - 1:Nat)=4294967295:=by decide
 rw [h4] at h3;rw [h3]
