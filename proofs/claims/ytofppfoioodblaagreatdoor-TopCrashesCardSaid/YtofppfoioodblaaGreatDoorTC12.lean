/- PARTS OF THE PROOF. -/
import Derived.Laws.Bits64
import Derived.Laws.Bits64b
import Derived.Shelf.Spec.TrailingZeros
import Derived.Laws.Concat
import Derived.Test.YtofppfoioodblaaGreatDoorTC11
set_option maxRecDepth 8000
set_option maxHeartbeats 4000000
open Go.Proofs.Tryz
namespace Go.Proofs.YtofppfoioodblaaGreatDoor
section
open Go Go.RowKit Go.Shelf Go.Extern.Stop Go.Stop Go.Extern
attribute [local go_sem] Oper.semAt_some zB zp
theorem ze5 {V:Type}(k:MId)(v:V):∀(l:List (MId×V)),(put k v l).map (·.1)=if k∈l.map (·.1)then l.map (·.1)else l.map (·.1)++ [k]
 | []=>by simp [put]
 |(k',v')::l=>by
  have ih:=ze5 k v l;unfold put
  by_cases h:k=k'
  ·subst h;simp
  rw [if_neg h]
  simp only [List.map_cons,ih,List.mem_cons,h,false_or]
  split<;>simp
theorem zih {V:Type}(k:MId)(v:V):∀(l:List (MId×V)) (q),q∈put k v l->q=(k,v)∨q∈l
 | [],q,h=>by simpa [put] using h
 |(k',v')::l,q,h=>by
  unfold put at h
  split at h
  ·rcases List.mem_cons.1 h with h|h
   ·exact .inl h
   exact .inr (U7 _ h)
  rcases List.mem_cons.1 h with h|h
  ·exact .inr (h ▸ List.mem_cons_self ..)
  rcases zih k v l q h with h|h
  ·exact .inl h
  exact .inr (U7 _ h)
theorem ze6 {V:Type}(k:MId)(v:V):∀(l:List (MId×V)),(put k v l).length<=l.length+1
 | []=>by simp [put]
 |(k',v')::l=>by
  have ih:=ze6 k v l;unfold put
  split
  ·simp
  simp;omega
theorem ze7 {V:Type}(k:MId):∀(l:List (MId×V)),(del k l).length<=l.length
 | []=>by simp [del]
 |(k',v')::l=>by
  have ih:=ze7 k l;unfold del
  split
  ·simp
  simp;omega
theorem Vw.add {p:xr}(h:Vw p)(m:zA)(hl:p.waits.length<1000):Vw {p with waits:=put m.1 m p.waits} :=by
 refine⟨λq hq=>?_,?_,?_⟩
 ·rcases zih _ _ _ _ hq with rfl|hq
  ·rfl
  exact h.1 q hq
 ·show((put m.1 m p.waits).map (·.1)).Nodup
  rw [ze5]
  split
  ·exact h.2.1
  rename_i hn
  rw [List.nodup_append];exact⟨h.2.1,by simp,λa ha b hb=>by simp at hb;subst hb;exact λe=>hn (e ▸ ha)⟩
 have:=ze6 m.1 m p.waits
 show(put m.1 m p.waits).length<=1000
 omega
theorem Vw.less {p:xr}(h:Vw p)(k:MId)(d:List (MId×Unit)):Vw {waits:=del k p.waits,done:=d} :=by
 refine⟨λq hq=>h.1 q (zdr _ _ _ hq),?_,Nat.le_trans (ze7 _ _) h.2.2⟩
 show((del k p.waits).map (·.1)).Nodup
 have:∀l:List (MId×zA),((del k l).map (·.1)).Sublist (l.map (·.1)):=by
  intro l
  induction l with
  |nil=>simp [del]
  |cons x l ih=>
   obtain⟨k',v'⟩:=x;unfold del
   split
   ·exact List.sublist_cons_self _ _
   exact ih.cons_cons _
 exact(this p.waits).nodup h.2.1
theorem zii {P:Program}{W:World}{b n:Nat}{es:Array MapEntry}{ck:Nat}(h:W.heap[b]?=some (.map es ck))(hs:es.size=n){mt kt et:TypeId}(hm:P.underlying mt=some (.map kt et))(rt:TypeId):(Builtin.len_ #[mt] rt #[.map (some b)]).run P W=.ok (.int .i64 n) W:=by
 simp [Builtin.len_,run_underlying hm,yf h,hs,goInt]
theorem zij(B:Nat)(p:xr)(t:List Nat)(ow:Own)(m:zA)(w:World)(h:j5 B p t ow w):
 Calls prog 139 #[.pointer (some ⟨B,0,none⟩),y7 m] w (zkd B (zdB p m).1 t ow w (.int .i64 (zdB p m).2)):=by
 obtain⟨⟨i,c⟩,d⟩:=m;have h0:=h;obtain⟨a8,wb,db,hB,hv,hk,a2,o1,o2,o3⟩:=h;have ak:=λW hW=>Yu B wb db W hW
 have aa:=λW=>vG i c d W
 have ah:=λW hW=>ze4 B p t ow i c W hW
 unfold xJ at hB ak;unfold y7;have ad:zdB p ((i,c),d)=if zx ((i,c),d)=false then(p,100)else if(zE (i,c) p.waits).isSome∨(zE (i,c) p.done).isSome then(p,0)else if 1000<=p.waits.length then(p,120)else({p with waits:=put (i,c) ((i,c),d) p.waits},0):=rfl
 have ac:∃a b x,∀W,Below w.heap.size w W->(Instr.lookup 228 (.map (some wb)) (.agg #[.int .i64 i,.int .u32 c]) true).run prog W=.ok (.tuple #[.agg #[.int .i64 a,.int .u32 b,.string x],.bool (zE (i,c) p.waits).isSome]) W:=by
  have ac:=λW (hW:Below w.heap.size w W)=>(hv.kept (hW.block wb hv.lt)).lookup_ok VK Tryz.underlying228 (zif W) (i,c)
  simp only [xB,Option.isSome_map] at ac
  cases hl:zE (i,c) p.waits with
  |none=>rw [hl] at ac;exact⟨_,_,_,ac⟩
  |some y=>rw [hl] at ac;exact⟨_,_,_,ac⟩
 obtain⟨la,lb,lx,ac⟩:=ac
 cases hr:zx ((i,c),d)
 ·rw [if_pos hr] at ad
  rw [ad];rw [hr] at aa;replace ad:=hid ad;replace aa:=hid aa;replace ak:=hid ak;replace h0:=hid h0;replace hr:=hid hr;have ap:=hB.alloc (.cells #[.int .i64 i,.int .u32 c,.string (bs d)] 78);replace hB:=hid hB;clear hv hk ac ah
  go_enter func139,ntmps139
  go_wp2_with fail
  refine(ak.out _ ap).mono ?_;rintro e w1⟨rfl,rfl⟩;go_wp2_with fail
  refine(aa.out _).mono ?_;rintro e w2⟨rfl,al⟩;go_wp2;go_ret
  exact⟨rfl,ow,zt.of_below t ow (pbx),(j5.loc B p t).below h0.out (pbx)⟩
 rw [if_neg (by simp [hr])] at ad
 rw [hr] at aa;replace aa:=hid aa;replace ak:=hid ak;replace hr:=hid hr;replace h0:=hid h0;have ap:=hB.alloc (.cells #[.int .i64 i,.int .u32 c,.string (bs d)] 78)
 cases hw:(zE (i,c) p.waits).isSome
 ·rw [hw] at ac ad
  replace ac:=hid ac;replace hw:=hid hw
  cases hd:(zE (i,c) p.done).isSome
  ·rw [hd] at ah ad
   rw [if_neg (by simp)] at ad;replace ah:=hid ah;replace hd:=hid hd;obtain⟨es,ck,a4,ar⟩:=hv.size;rw [List.length_map] at ar
   by_cases hfull:1000<=p.waits.length
   ·rw [if_pos hfull] at ad
    rw [ad];replace ad:=hid ad
    go_enter func139,ntmps139
    go_wp2_with fail
    refine(ak.out _ ap).mono ?_;rintro e w1⟨rfl,rfl⟩;go_wp2_with fail
    refine(aa.out _).mono ?_;rintro e w2⟨rfl,al⟩;have aj:=ap.call al;have ae:Blk w2 w.heap.size #[.int .i64 i,.int .u32 c,.string (bs d)] 78:=Blk.call (bkx) al;have af:Below w.heap.size w w2:=pbx;clear al;go_wp2_with fail
    refine zd [O 0,O 1,O 2,O 3,O 4,O 5,O 6,O 7,O 8,O 9,E 10,E 11,O 12] none (λw'=>Blk w' B #[.map (some wb),.map (some db)] 231/\Blk w' w.heap.size #[.int .i64 i,.int .u32 c,.string (bs d)] 78/\(Instr.lookup 228 (.map (some wb)) (.agg #[.int .i64 i,.int .u32 c]) true).run prog w'=.ok (.tuple #[.agg #[.int .i64 la,.int .u32 lb,.string lx],.bool false]) w'/\True) ⟨aj.drew,ae.drew,ac.out _ (pbx),trivial⟩ ?_
    refine Wh ?_
    refine zc rfl (λK hK=>?_);go_wp2;refine hK.out _ _ (λ_=>⟨aj.drew.alloc _,ae.drew.alloc _,ac.out _ (pbx),trivial⟩) ?_;clear hK K;refine zc rfl (λK hK=>?_);go_wp2;refine hK.out _ _ (λ_=>⟨aj.drew.alloc _,ae.drew.alloc _,ac.out _ (pbx),trivial⟩) ?_;clear hK K
    refine Wh ?_
    refine ze ?_;obtain⟨W3,ag⟩:∃W3,W3=(w2.alloc (.cells #[.int .i64 la,.int .u32 lb,.string lx] 294)).drew:=⟨_,rfl⟩;have ao:Below w.heap.size w W3:=by rw [ag];exact zq (zi af _)
    have ax:Blk W3 B #[.map (some wb),.map (some db)] 231:=by rw [ag];exact(aj.alloc _).drew
    have am:Blk W3 w.heap.size #[.int .i64 i,.int .u32 c,.string (bs d)] 78:=by rw [ag];exact(ae.alloc _).drew
    rw [← ag];clear ag aj ae af;have au:=am.cell;have aw:=am.lt;go_wp2_with fail
    refine(ah.out _ ((j5.loc B p t).below h0.out ao)).mono ?_;rintro e w4⟨rfl,an⟩;have aq:=ax.call an;have ay:=am.call an;have a5:=aq.cell;have ai:=zh ao an;clear au aw;have a1:w4.heap[wb]?=some (.map es ck):=(ai.block wb hv.lt).trans a4;have a7:=λrt=>zii (P:=prog) a1 ar Tryz.underlying228 rt
    have t1:decide ((1000:Int)<=(p.waits.length:Int))=true:=by simp;omega
    go_wp2;go_ret
    exact⟨rfl,ow,zt.of_below t ow ai,(j5.loc B p t).below h0.out ai⟩
   rw [if_neg hfull] at ad
   rw [ad];replace ad:=hid ad
   go_enter func139,ntmps139
   go_wp2_with fail
   refine(ak.out _ ap).mono ?_;rintro e w1⟨rfl,rfl⟩;go_wp2_with fail
   refine(aa.out _).mono ?_;rintro e w2⟨rfl,al⟩;have aj:=ap.call al;have ae:Blk w2 w.heap.size #[.int .i64 i,.int .u32 c,.string (bs d)] 78:=Blk.call (bkx) al;have af:Below w.heap.size w w2:=pbx;clear al;go_wp2_with fail
   refine zd [O 0,O 1,O 2,O 3,O 4,O 5,O 6,O 7,O 8,O 9,E 10,E 11,O 12] none (λw'=>Blk w' B #[.map (some wb),.map (some db)] 231/\Blk w' w.heap.size #[.int .i64 i,.int .u32 c,.string (bs d)] 78/\(Instr.lookup 228 (.map (some wb)) (.agg #[.int .i64 i,.int .u32 c]) true).run prog w'=.ok (.tuple #[.agg #[.int .i64 la,.int .u32 lb,.string lx],.bool false]) w'/\True) ⟨aj.drew,ae.drew,ac.out _ (pbx),trivial⟩ ?_
   refine Wh ?_
   refine zc rfl (λK hK=>?_);go_wp2;refine hK.out _ _ (λ_=>⟨aj.drew.alloc _,ae.drew.alloc _,ac.out _ (pbx),trivial⟩) ?_;clear hK K;refine zc rfl (λK hK=>?_);go_wp2;refine hK.out _ _ (λ_=>⟨aj.drew.alloc _,ae.drew.alloc _,ac.out _ (pbx),trivial⟩) ?_;clear hK K
   refine Wh ?_
   refine ze ?_;obtain⟨W3,ag⟩:∃W3,W3=(w2.alloc (.cells #[.int .i64 la,.int .u32 lb,.string lx] 294)).drew:=⟨_,rfl⟩;have ao:Below w.heap.size w W3:=by rw [ag];exact zq (zi af _)
   have ax:Blk W3 B #[.map (some wb),.map (some db)] 231:=by rw [ag];exact(aj.alloc _).drew
   have am:Blk W3 w.heap.size #[.int .i64 i,.int .u32 c,.string (bs d)] 78:=by rw [ag];exact(ae.alloc _).drew
   rw [← ag];clear ag aj ae af;have au:=am.cell;have aw:=am.lt;go_wp2_with fail
   refine(ah.out _ ((j5.loc B p t).below h0.out ao)).mono ?_;rintro e w4⟨rfl,an⟩;have aq:=ax.call an;have ay:=am.call an;have a5:=aq.cell;have ai:=zh ao an;clear au aw;have a1:w4.heap[wb]?=some (.map es ck):=(ai.block wb hv.lt).trans a4;have a7:=λrt=>zii (P:=prog) a1 ar Tryz.underlying228 rt
   have t1:decide ((1000:Int)<=(p.waits.length:Int))=false:=by simp;omega
   have a3:z6 w4 wb idV (p.waits.map λq=>(q.1,y7 q.2)):=hv.kept (ai.block wb hv.lt);obtain⟨o,hu,hm⟩:=(a3.kept (w':=w4.drew) rfl).update VK Tryz.underlying228 ((i,c):MId) (y7 ((i,c),d));rw [JD y7] at hm;unfold y7 idV at hu;have az:B≠wb:=hB.ne_map hv;have a0:w.heap.size≠wb:=by have:=hv.lt;omega
   have a6:=a3.lt;replace hm:=hid hm;go_wp2_with fail
   refine zd [O 0,O 1,O 2,O 3,O 4,O 5,O 6,E 7,E 8] none (λw'=>Blk w' B #[.map (some wb),.map (some db)] 231/\Blk w' w.heap.size #[.int .i64 i,.int .u32 c,.string (bs d)] 78/\True) ⟨aq.drew,ay.drew,trivial⟩ ?_
   refine We ?_
   refine zc rfl (λK hK=>?_);go_wp2;refine hK.out _ _ (λ_=>⟨aq.drew,ay.drew,trivial⟩) ?_;clear hK K;refine zc rfl (λK hK=>?_);go_wp2;refine hK.out _ _ (λ_=>⟨aq.drew.putObj az o,ay.drew.putObj a0 o,trivial⟩) ?_;clear hK K;refine ze ?_;go_wp2;go_ret
   refine⟨rfl,ow,⟨?_,λ_ _=>rfl⟩,a8.add ((i,c),d) (by omega),wb,db,aq.drew.putObj az o,hm.out,?_,a2,o1,o2,o3⟩
   ·exact((Mod.of_below (λk=>Sub t (ow k)) ai).thenDrew).thenPut (by rw [o2];exact Sub.rfl' t) o
   exact hk.kept ((U1 (Ne.symm a2)).trans (ai.block db hk.lt))
  rw [hd] at ah ad
  rw [if_pos (.inr rfl)] at ad;rw [ad];replace ad:=hid ad;replace ah:=hid ah;replace hd:=hid hd
  go_enter func139,ntmps139
  go_wp2_with fail
  refine(ak.out _ ap).mono ?_;rintro e w1⟨rfl,rfl⟩;go_wp2_with fail
  refine(aa.out _).mono ?_;rintro e w2⟨rfl,al⟩;have aj:=ap.call al;have ae:Blk w2 w.heap.size #[.int .i64 i,.int .u32 c,.string (bs d)] 78:=Blk.call (bkx) al;have af:Below w.heap.size w w2:=pbx;clear al;go_wp2_with fail
  refine zd [O 0,O 1,O 2,O 3,O 4,O 5,O 6,O 7,O 8,O 9,E 10,E 11,O 12] none (λw'=>Blk w' B #[.map (some wb),.map (some db)] 231/\Blk w' w.heap.size #[.int .i64 i,.int .u32 c,.string (bs d)] 78/\(Instr.lookup 228 (.map (some wb)) (.agg #[.int .i64 i,.int .u32 c]) true).run prog w'=.ok (.tuple #[.agg #[.int .i64 la,.int .u32 lb,.string lx],.bool false]) w'/\True) ⟨aj.drew,ae.drew,ac.out _ (pbx),trivial⟩ ?_
  refine Wh ?_
  refine zc rfl (λK hK=>?_);go_wp2;refine hK.out _ _ (λ_=>⟨aj.drew.alloc _,ae.drew.alloc _,ac.out _ (pbx),trivial⟩) ?_;clear hK K;refine zc rfl (λK hK=>?_);go_wp2;refine hK.out _ _ (λ_=>⟨aj.drew.alloc _,ae.drew.alloc _,ac.out _ (pbx),trivial⟩) ?_;clear hK K
  refine Wh ?_
  refine ze ?_;obtain⟨W3,ag⟩:∃W3,W3=(w2.alloc (.cells #[.int .i64 la,.int .u32 lb,.string lx] 294)).drew:=⟨_,rfl⟩;have ao:Below w.heap.size w W3:=by rw [ag];exact zq (zi af _)
  have ax:Blk W3 B #[.map (some wb),.map (some db)] 231:=by rw [ag];exact(aj.alloc _).drew
  have am:Blk W3 w.heap.size #[.int .i64 i,.int .u32 c,.string (bs d)] 78:=by rw [ag];exact(ae.alloc _).drew
  rw [← ag];clear ag aj ae af;have au:=am.cell;have aw:=am.lt;go_wp2_with fail
  refine(ah.out _ ((j5.loc B p t).below h0.out ao)).mono ?_;rintro e w4⟨rfl,an⟩;have aq:=ax.call an;have ay:=am.call an;have a5:=aq.cell;have ai:=zh ao an;clear au aw;go_wp2;go_ret
  exact⟨rfl,ow,zt.of_below t ow ai,(j5.loc B p t).below h0.out ai⟩
 rw [hw] at ac ad
 rw [if_pos (.inl rfl)] at ad;rw [ad];replace ad:=hid ad;replace ac:=hid ac;replace hw:=hid hw;clear ah
 go_enter func139,ntmps139
 go_wp2_with fail
 refine(ak.out _ ap).mono ?_;rintro e w1⟨rfl,rfl⟩;go_wp2_with fail
 refine(aa.out _).mono ?_;rintro e w2⟨rfl,al⟩;have aj:=ap.call al;have ae:Blk w2 w.heap.size #[.int .i64 i,.int .u32 c,.string (bs d)] 78:=Blk.call (bkx) al;have af:Below w.heap.size w w2:=pbx;clear al;go_wp2_with fail
 refine zd [O 0,O 1,O 2,O 3,O 4,O 5,O 6,O 7,O 8,O 9,E 10,E 11,O 12] none (λw'=>Blk w' B #[.map (some wb),.map (some db)] 231/\Blk w' w.heap.size #[.int .i64 i,.int .u32 c,.string (bs d)] 78/\(Instr.lookup 228 (.map (some wb)) (.agg #[.int .i64 i,.int .u32 c]) true).run prog w'=.ok (.tuple #[.agg #[.int .i64 la,.int .u32 lb,.string lx],.bool true]) w'/\True) ⟨aj.drew,ae.drew,ac.out _ (pbx),trivial⟩ ?_
 refine Wh ?_
 refine zc rfl (λK hK=>?_);go_wp2;refine hK.out _ _ (λ_=>⟨aj.drew.alloc _,ae.drew.alloc _,ac.out _ (pbx),trivial⟩) ?_;clear hK K;refine zc rfl (λK hK=>?_);go_wp2;refine hK.out _ _ (λ_=>⟨aj.drew.alloc _,ae.drew.alloc _,ac.out _ (pbx),trivial⟩) ?_;clear hK K
 refine Wh ?_
 refine ze ?_;obtain⟨W3,ag⟩:∃W3,W3=(w2.alloc (.cells #[.int .i64 la,.int .u32 lb,.string lx] 294)).drew:=⟨_,rfl⟩;have ao:Below w.heap.size w W3:=by rw [ag];exact zq (zi af _)
 have ax:Blk W3 B #[.map (some wb),.map (some db)] 231:=by rw [ag];exact(aj.alloc _).drew
 have am:Blk W3 w.heap.size #[.int .i64 i,.int .u32 c,.string (bs d)] 78:=by rw [ag];exact(ae.alloc _).drew
 rw [← ag];clear ag aj ae af;have au:=am.cell;have aw:=am.lt;go_wp2;go_ret
 exact⟨rfl,ow,zt.of_below t ow ao,(j5.loc B p t).below h0.out ao⟩
end
section
open Go
theorem qy(a b:Nat)(ha:a<4294967296)(hb:b<4294967296):bits .xor .u32 (a:Int) (b:Int)=((a ^^^ b:Nat):Int):=by
 have hx:a ^^^ b<2 ^ 32:=Nat.xor_lt_two_pow (by omega) (by omega)
 have h1:(BitVec.ofInt 32 (a:Int)).toNat=a:=by
  rw [BitVec.ofInt_natCast,BitVec.toNat_ofNat];exact Nat.mod_eq_of_lt (by omega)
 have h2:(BitVec.ofInt 32 (b:Int)).toNat=b:=by
  rw [BitVec.ofInt_natCast,BitVec.toNat_ofNat];exact Nat.mod_eq_of_lt (by omega)
 show IntKind.u32.wrap ((BitVec.ofInt 32 (a:Int)^^^ BitVec.ofInt 32 (b:Int)).toNat:Int)=_
 rw [BitVec.toNat_xor,h1,h2,IntKind.wrap_u32];omega
theorem zdQ(a b:Nat)(ha:a<4294967296)(hb:b<4294967296):bits .or .u32 (a:Int) (b:Int)=((a|||b:Nat):Int):=by
 have hx:a|||b<2 ^ 32:=Nat.or_lt_two_pow (by omega) (by omega)
 have h1:(BitVec.ofInt 32 (a:Int)).toNat=a:=by
  rw [BitVec.ofInt_natCast,BitVec.toNat_ofNat];exact Nat.mod_eq_of_lt (by omega)
 have h2:(BitVec.ofInt 32 (b:Int)).toNat=b:=by
  rw [BitVec.ofInt_natCast,BitVec.toNat_ofNat];exact Nat.mod_eq_of_lt (by omega)
 show IntKind.u32.wrap ((BitVec.ofInt 32 (a:Int)|||BitVec.ofInt 32 (b:Int)).toNat:Int)=_
 rw [BitVec.toNat_or,h1,h2,IntKind.wrap_u32];omega
theorem zik {s:Nat}(h:s<4294967296):Vn s<4294967296:=by
 unfold Vn
 split
 ·exact Nat.xor_lt_two_pow (n:=32) (by omega) (by omega)
 omega
theorem Y0:∀(n:Nat){s:Nat},s<4294967296->ZH n s<4294967296
 |0,_,h=>h
 |n+1,_,h=>Y0 n (zik h)
theorem Vx:∀(n s:Nat),ZH (n+1) s=Vn (ZH n s)
 |0,_=>rfl
 |n+1,s=>Vx n (Vn s)
theorem zgd {s:Nat}(h:s<4294967296)(b:UInt8):vN s b<4294967296:=by
 unfold vN;refine Y0 8 (Nat.xor_lt_two_pow (n:=32) (by omega) ?_);have:=b.toNat_lt;omega
theorem Y1:∀(l:List UInt8){s:Nat},s<4294967296->l.foldl vN s<4294967296
 | [],_,h=>h
 |b::l,_,h=>Y1 l (zgd h b)
theorem zil {s:Nat}(h:s<4294967296):bits .xor .u32 ((s:Int) / 2) (bits .and .u32 3988292384 (IntKind.u32.wrap (-((s:Int)% 2))))=(Vn s:Int):=by
 have hd:((s:Int) / 2)=((s / 2:Nat):Int):=by omega
 rw [hd];unfold Vn
 by_cases h1:s % 2=1
 ·rw [if_pos h1]
  have e:(s:Int)% 2=1:=by omega
  have h2:bits .and .u32 3988292384 (IntKind.u32.wrap (-1))=((3988292384:Nat):Int):=by decide
  rw [e,h2,qy _ _ (by omega) (by omega)]
 rw [if_neg h1]
 have e:(s:Int)% 2=0:=by omega
 have h2:bits .and .u32 3988292384 (IntKind.u32.wrap (-0))=((0:Nat):Int):=by decide
 rw [e,h2,qy _ _ (by omega) (by omega),Nat.xor_zero]
theorem zge {s:Nat}(h:s<4294967296):bits .xor .u32 ((s:Int) / 2) (bits .and .u32 3988292384 (-bits .and .u32 (s:Int) 1 % 4294967296))=(Vn s:Int):=by
 have h1:bits .and .u32 (s:Int) 1=(s:Int)% 2:=by
  have:=bits_and_u32_nat s 1 h (by omega);rw [show((1:Nat):Int)=1 from rfl] at this;rw [this,Nat.and_one_is_mod];omega
 rw [h1,← IntKind.wrap_u32];exact zil h
theorem zim(s:Nat)(hs:s<4294967296):bits .xor .u32 IntKind.u32.max (s:Int)=((4294967295 - s:Nat):Int):=by
 have h0:=qy 4294967295 s (by omega) hs;have h1:IntKind.u32.max=((4294967295:Nat):Int):=rfl;rw [h1,h0];have h2:BitVec.allOnes 32 ^^^ BitVec.ofNat 32 s= ~~~(BitVec.ofNat 32 s):=BitVec.allOnes_xor;have h3:=congrArg BitVec.toNat h2;rw [BitVec.toNat_xor,BitVec.toNat_not,BitVec.toNat_allOnes,BitVec.toNat_ofNat,Nat.mod_eq_of_lt (by omega:s<2 ^ 32)] at h3;have h4:(2 ^ 32 - 1:Nat)=4294967295:=by decide
 rw [h4] at h3;rw [h3]
end
open Go Go.RowKit Go.Shelf Go.Extern.Stop Go.Stop Go.Extern
attribute [local go_sem] Oper.semAt_some zB zp
theorem zke(s:Nat)(hs:s<4294967296)(b:UInt8)(w:World):Calls prog 298 #[.int .u32 s,.int .u8 (b.toNat:Int)] w λe w'=>e=.returned (.int .u32 (vN s b:Nat))/\w'=w:=by
 have hb:=b.toNat_lt;have hx:s ^^^ b.toNat<4294967296:=Nat.xor_lt_two_pow (n:=32) (by omega) (by omega);have h0:=qy s b.toNat hs (by omega);have af:IntKind.u32.wrap (b.toNat:Int)=(b.toNat:Int):=by rw [IntKind.wrap_u32];omega
 unfold vN
 generalize s ^^^ b.toNat=q at*
 generalize b.toNat=bn at*
 go_enter func298,ntmps298
 go_wp2
 go_loopw [0,10] (λp0 p10 W=>∃k:Nat,k<=8/\p10=.int .i64 k/\p0=.int .u32 (ZH k q:Nat)/\W=w) (λ_ p10 _=>8 - (intOf p10).toNat)
 case atStart=>exact⟨0,by omega,rfl,by first|rfl|simp [ZH],rfl⟩
 case round=>
  obtain⟨k,hk,rfl,rfl,rfl⟩:=hrel;have ae:=Y0 k hx;have aa:=Vx k q;have ac:=zge ae
  by_cases h8:k<8
  ·generalize ZH k q=s' at*
   replace aa:=hid aa;replace h0:=hid h0;replace ac:=hid ac;go_wp2
   go_roundw
   case rel=>exact⟨k+1,by omega,by go_num,by rw [ac.out,aa.out],by first|exact rfl|exact trivial⟩
   case measure=>simp [intOf];omega
  have ad:k=8:=by omega
  subst ad;go_wp2;go_ret
  exact⟨rfl,rfl⟩
theorem ze8(s:ByteArray)(w:World):Calls prog 208 #[.string s] w λe w'=>
 e=.returned (.func (.func 256) #[] #[.pointer (some ⟨w.heap.size,0,none⟩)])/\w'=w.alloc (.cells #[.string s] 9):=by
 go_enter func208,ntmps208
 go_wp2;go_ret
 exact⟨rfl,rfl⟩
theorem zci(cb:Nat)(l:List UInt8)(hlen:l.length<=1073741824):
 Qr Fence.wide 2 prog 256 #[.pointer (some ⟨cb,0,none⟩)] (λx:Nat×UInt8=> #[.int .i64 (x.1:Nat),.int .u8 (x.2.toNat:Nat)])
  (λ(k:Nat) x=>l[k]?=some x.2/\x.1=k) (λk _=>k+1) (λk=>k=l.length)
  (λ_ W=>Blk W cb #[.string (bs l)] 9) 0:=by
 intro lp J Jx W hJ hJx hRd hY h0;have r0:=hRd _ _ _ h0;have e0:=r0.cell;have hF:Fence.wide.fn 256:=trivial;have ac:Fence.wide.round=none:=rfl;have ae:=zL l;clear r0;refine callsIn_of_wp func256 rfl hF ?_ ac;simp only [ntmps256,R8,Nat.reduceAdd,Nat.reduceSub]
 gi_wp2
 gi_loopw [6] (λp wr=>∃(k:Nat)(X:Nat->Prop),p=.int .i64 (k:Int)/\k<=l.length/\J k X wr) (λp _=>l.length - (intOf p).toNat)
 case atStart=>exact⟨0,_,rfl,Nat.zero_le _,h0⟩
 case round=>
  obtain⟨k,X,rfl,hk,aa⟩:=hrel;clear e0
  by_cases hlt:k<l.length
  ·have ag:k<(bs l).size:=by rw [ae];exact hlt
   have hx:l[k]?=some ((bs l)[k]):=by
    rw [N3 hlt]
    congr 1
   have e1:=(hRd _ _ _ aa).cell;obtain⟨fn,tmps,assign,body,hy,hR⟩:=hY k (k,(bs l)[k]) X wr aa ⟨hx,rfl⟩;simp only at hy;clear hx
   gi_wp2
   refine hR.mono ?_;rintro e W'(⟨rfl,af, -⟩|⟨rfl,ad⟩)
   ·clear e1 hR hy
    gi_wp2
    go_roundw
    case rel=>exact⟨k+1,_,by go_num,by omega,af⟩
    case measure=>simp [intOf];omega
   gi_wp2
   refine bodyPost_ret (results_none rfl _ _ _) rfl ?_;exact⟨⟨_,rfl⟩,.inr ⟨_,ad⟩⟩
  obtain rfl:k=l.length:=by omega
  gi_wp2
  go_end0
  exact⟨⟨_,rfl⟩,.inl ⟨l.length,X,rfl,aa⟩⟩
def zme(l:List UInt8)(s0:Nat)(pb:Nat)(W0:World)(k:Nat)(X:Nat->Prop)(W:World):Prop:=
 Fr (λk=>k=pb) W0 X W/\Blk W pb #[.int .u32 ((l.take k).foldl vN s0:Nat)] 35
theorem zkf(s:Nat)(hs:s<4294967296)(l:List UInt8)(hl:l.length<=1073741824)(w:World):Calls prog 242 #[.int .u32 s,.string (bs l)] w λe w'=>
 e=.returned (.int .u32 (4294967295 - l.foldl vN (4294967295 - s):Nat))/\Below w.heap.size w w':=by
 have hx:=zim s hs;obtain⟨s0,aj⟩:∃s0,4294967295 - s=s0:=⟨_,rfl⟩;rw [aj] at hx⊢;have ac:s0<4294967296:=by omega
 replace aj:=hid aj;refine zm func242 rfl ?_;simp only [ntmps242,R8,Nat.reduceAdd,Nat.reduceSub];go_wp2_with fail
 refine(ze8 _ _).mono ?_;rintro e w1⟨rfl,rfl⟩;go_wp2_with fail
 obtain⟨W0,aa⟩:∃W0,W0=((w.alloc (.cells #[.int .u32 (s0:Int)] 35)).alloc (.cells #[.string (bs l)] 9)):=⟨_,rfl⟩;have am:Below w.heap.size w W0:=by rw [aa];exact pbx
 have ap:W0.heap.size=w.heap.size+2:=by rw [aa];simp
 have kp:Blk W0 w.heap.size #[.int .u32 (s0:Int)] 35:=by rw [aa];exact bkx
 have kc:Blk W0 (w.heap.size+1) #[.string (bs l)] 9:=by rw [aa];exact Blk.new (by simp)
 rw [← aa];clear aa hx
 refine vg (gf:=256) (lb:=#[.pointer (some ⟨w.heap.size+1,0,none⟩)]) rfl (enters_of func256 (by kernel_rfl) rfl)
  (zci (w.heap.size+1) l hl) (λ_=>rfl)
  (λk X W=>zme l s0 w.heap.size W0 k X W) (λc X W=>False)
  (λk X X' W W' h hm hx=>⟨h.1.step hm hx,h.2.kept (h.1.block hm (by omega))⟩)
  (λc s X X' W W' h hm hx=>h)
  (λk X W h=>kc.mod h.1.2 (by omega))
  ⟨Fr.refl _ _,kp⟩
  (λx=>[(6,.int .u8 (x.2.toNat:Int))]) ?assign ?body ?done ?stop
 case assign=>
  intro l' x W K hK;rw [vT] at hK⊢
  gi_wp2
  exact hK
 case body=>
  rintro l' k⟨q,x⟩ X W⟨ad,kb⟩⟨hx,rfl⟩ an _;rw [vT];have ao:=(N6.1 hx).1;have ag:=Y1 (l.take q) ac;have ah:(l.take (q+1)).foldl vN s0=vN ((l.take q).foldl vN s0) x:=by rw [List.take_add_one,hx];simp [List.foldl_append]
  have e0:=kb.cell;have f0:=kb.frozen;have l0:=kb.lt
  generalize(l.take q).foldl vN s0=s' at*
  replace ah:=hid ah;replace hx:=hid hx
  gi_wp2_with (gi_at_call 298;refine(inRound _ _ (zke s' ag x _)).mono ?_;rintro e w1 ⟨rfl,rfl⟩)
  have hm:Mod (λk=>k=w.heap.size) w1 (w1.setCell ⟨w.heap.size,0,none⟩ (.int .u32 (vN s' x:Nat))):=Mod.setCell w1 _ _ rfl;exact⟨⟨ad.mod hm (λk _ h=>h),by rw [ah.out];exact kb.set _⟩,jJ.of_mod hm (λk _ hX he=>by have:=ad.1 k hX;omega)⟩
 case done=>
  rintro D k X W hD al ai⟨ad,kb⟩ af;obtain rfl:k=l.length:=ai;rw [List.take_length] at kb;have ag:=Y1 l ac;have hn:=zim _ ag;have e0:=kb.cell;have ak:Below w.heap.size w W:=am.trans (ad.below (by omega) (λk h=>by omega));obtain⟨s',ae⟩:∃s',l.foldl vN s0=s':=⟨_,rfl⟩;rw [ae] at e0 hn;replace ae:=hid ae;go_wp2;exact jb (D:=D) (v:=.int .u32 (4294967295 - s':Nat)) af (by simp [results,Tryz.results242,go_sem]) ⟨by rw [ae.out],zM ak (by omega) _⟩
 case stop=>rintro D c X W hD al h;exact h.elim
theorem zin(l:List UInt8)(hl:l.length<=1073741824)(w:World):Calls prog 193 #[.string (bs l)] w λe w'=>e=.returned (.int .u32 (zhJ l:Nat))/\Below w.heap.size w w':=by
 have hm:=λW=>zkf 0 (by omega) l hl W
 have hc:4294967295 - l.foldl vN (4294967295 - 0)=zhJ l:=rfl;rw [hc] at hm;replace hm:=hid hm;clear hc
 go_enter func193,ntmps193
 go_wp2_with fail
 refine(hm.out _).mono ?_;rintro e w1⟨rfl,aa⟩;go_wp2;go_ret
 exact⟨rfl,aa⟩
theorem JA(a b:List UInt8)(h:a.length+b.length<=9223372036854775807)(w:World):(Op.stringOp .add (bs a) (bs b)).run prog w=.ok (.string (bs (a++b))) w:=by
 rw [run_string_add_sum w (bs a) (bs b) (by rw [zL,zL];exact h),zlY]
theorem ze9(l:List UInt8)(hl:l.length<=1073741823)(w:World):Calls prog 241 #[.string (bs l)] w λe w'=>e=.returned (.string (bs (Zb l)))/\Below w.heap.size w w':=by
 have aa:=JA l (le4 (zhJ l)) (by rw [jd];omega)
 go_enter func241,ntmps241
 go_wp2_with fail
 refine(zin l (by omega) _).mono ?_;rintro e w1⟨rfl,ad⟩;go_wp2_with fail
 refine(y9 _ _).mono ?_;rintro e w2⟨rfl,ac⟩;go_wp2;go_ret
 exact⟨rfl,zh ad ac⟩
theorem zfa(a b:List UInt8):((bs a).toList==(bs b).toList)=decide (a=b):=by
 rw [yQ,yQ]
 by_cases h:a=b
 ·simp [h]
 simp [h]
def zdR(r:Option (List UInt8)):Value:=match r with|none=>.tuple #[.string ⟨#[]⟩,.bool false] |some b=>.tuple #[.string (bs b),.bool true]
theorem zaT(l:List UInt8)(hl:l.length<=1073741824)(w:World):Calls prog 147 #[.string (bs l)] w λe w'=>e=.returned (zdR (xU l))/\Below w.heap.size w w':=by
 have ac:=zL l
 by_cases h4:l.length<4
 ·have ho:xU l=none:=by unfold xU;rw [if_pos h4]
  rw [ho];have t0:decide (((bs l).size:Int)<4)=true:=by rw [ac];simp;omega
  replace ac:=hid ac
  go_enter func147,ntmps147
  go_wp2;go_ret2
  exact⟨rfl,N2 _ _⟩
 have t0:decide (((bs l).size:Int)<4)=false:=by rw [ac];simp;omega
 have ho:xU l=if l.drop (l.length - 4)=le4 (zhJ (l.take (l.length - 4)))then some (l.take (l.length - 4))else none:=by unfold xU;rw [if_neg h4]
 have ai:=vS l (l.length - 4);have aj:(bs l).extract (l.length - 4) l.length=bs (l.drop (l.length - 4)):=by have:=ju l (l.length - 4);rwa [ac] at this
 have af:(l.take (l.length - 4)).length=l.length - 4:=by simp
 have ad:=zL (l.take (l.length - 4));rw [af] at ad;have ak:(((l.length:Int) - 4).toNat)=l.length - 4:=by omega
 have y0:(4:Int)<=(l.length:Int):=by omega
 have y1:(l.length:Int)<=1073741824:=by omega
 generalize l.take (l.length - 4)=body at*
 generalize l.drop (l.length - 4)=tail at*
 have aa:=λW=>zin body (by omega) W
 replace aa:=hid aa;have hq:=zfa tail (le4 (zhJ body))
 by_cases heq:tail=le4 (zhJ body)
 rw [show zdR (xU l)=.tuple #[.string (bs body),.bool true] by rw [ho,if_pos heq];rfl];rw [show decide (tail=le4 (zhJ body))=true by simpa using heq] at hq;replace ho:=hid ho;replace heq:=hid heq
 rotate_left
 rw [show zdR (xU l)=.tuple #[.string ⟨#[]⟩,.bool false] by rw [ho,if_neg heq];rfl];rw [show decide (tail=le4 (zhJ body))=false by simpa using heq] at hq;replace ho:=hid ho;replace heq:=hid heq
 all_goals
  rw [← ac] at*
  go_enter func147,ntmps147
  go_wp2_with fail
  refine zd [O 0,O 1,O 2,O 3,O 4,E 5,E 6,O 7] none (λw'=>True) trivial ?_
  refine Wk ?_
  refine zc rfl (λK hK=>?_);go_wp2_with fail
  refine(aa.out _).mono ?_;rintro e w1⟨rfl,ag⟩;go_wp2;refine hK.out _ _ (λ_=>trivial) ?_;clear hK K;refine zc rfl (λK hK=>?_);go_wp2_with fail
  refine(y9 _ _).mono ?_;rintro e w2⟨rfl,ae⟩;go_wp2;refine hK.out _ _ (λ_=>trivial) ?_;clear hK K;have ah:Below w.heap.size w w2:=zh (zh (zq (N2 _ _)) ag) ae
  refine Wk ?_
  refine ze ?_;go_wp2;go_ret2
  exact⟨rfl,ah⟩
def zlt(l:List UInt8):Value:=.tuple #[.int .u32 (yy l:Nat),.int .i64 (if l.length=4 then 0 else 2)]
def YP(l:List UInt8):Nat:=l.foldr (λb n=>b.toNat+256*n) 0
theorem zio(l:List UInt8)(b:UInt8):YP (l++ [b])=YP l+256 ^ l.length*b.toNat:=by
 induction l with
 |nil=>simp [YP]
 |cons x l ih=>
  have h1:YP (x::l++ [b])=x.toNat+256*YP (l++ [b]):=rfl;have h2:YP (x::l)=x.toNat+256*YP l:=rfl;rw [h1,h2,ih,List.length_cons,Nat.pow_succ,Nat.mul_add];rw [Nat.add_assoc,Nat.mul_comm (256 ^ l.length) 256,Nat.mul_assoc]
theorem zdS(l:List UInt8):YP l<256 ^ l.length:=by
 induction l with
 |nil=>simp [YP]
 |cons x l ih=>
  have h2:YP (x::l)=x.toNat+256*YP l:=rfl;have:=x.toNat_lt;rw [h2,List.length_cons,Nat.pow_succ];omega
theorem zfb(s x i:Nat)(hs:s<2 ^ i)(hx:x<256)(hi:i<=24):bits .or .u32 (s:Int) (IntKind.u32.wrap ((x:Int)*((2 ^ i:Nat):Int)))=((s+2 ^ i*x:Nat):Int):=by
 have h1:2 ^ i<=2 ^ 24:=Nat.pow_le_pow_right (by decide) hi;have h2:x*2 ^ i<=255*2 ^ 24:=Nat.mul_le_mul (by omega) h1
 have h3:IntKind.u32.wrap ((x:Int)*((2 ^ i:Nat):Int))=((x*2 ^ i:Nat):Int):=by
  rw [IntKind.wrap_u32,← Int.natCast_mul];omega
 have h4:=Nat.two_pow_add_eq_or_of_lt hs x;rw [h3,zdQ s _ (by omega) (by omega),Nat.mul_comm x,Nat.add_comm,h4,Nat.or_comm]
def zmC(l:List UInt8)(pb:Nat)(W0:World)(k:Nat)(X:Nat->Prop)(W:World):Prop:=
 Fr (λk=>k=pb) W0 X W/\Blk W pb #[.int .u32 (YP (l.take k):Nat)] 35
theorem ql(l:List UInt8)(hl:l.length<=1073741824)(w:World):Calls prog 198 #[.string (bs l)] w λe w'=>e=.returned (zlt l)/\Below w.heap.size w w':=by
 have aj:=zL l;unfold zlt yy
 by_cases h4:l.length=4
 ·rw [if_pos h4,if_pos h4]
  have t0:(((bs l).size:Int) !=4)=false:=by rw [aj,h4];rfl
  replace aj:=hid aj;replace h4:=hid h4;refine zm func198 rfl ?_;simp only [ntmps198,R8,Nat.reduceAdd,Nat.reduceSub];go_wp2_with fail
  refine(ze8 _ _).mono ?_;rintro e w1⟨rfl,rfl⟩;go_wp2_with fail
  obtain⟨W0,ai⟩:∃W0,W0=((w.alloc (.cells #[.int .u32 0] 35)).alloc (.cells #[.string (bs l)] 9)):=⟨_,rfl⟩;have ap:Below w.heap.size w W0:=by rw [ai];exact pbx
  have ar:W0.heap.size=w.heap.size+2:=by rw [ai];simp
  have kp:Blk W0 w.heap.size #[.int .u32 0] 35:=by rw [ai];exact bkx
  have kc:Blk W0 (w.heap.size+1) #[.string (bs l)] 9:=by rw [ai];exact Blk.new (by simp)
  rw [← ai];clear ai
  refine vg (gf:=256) (lb:=#[.pointer (some ⟨w.heap.size+1,0,none⟩)]) rfl (enters_of func256 (by kernel_rfl) rfl)
   (zci (w.heap.size+1) l hl) (λ_=>rfl)
   (λk X W=>zmC l w.heap.size W0 k X W) (λc X W=>False)
   (λk X X' W W' h hm hx=>⟨h.1.step hm hx,h.2.kept (h.1.block hm (by omega))⟩)
   (λc s X X' W W' h hm hx=>h)
   (λk X W h=>kc.mod h.1.2 (by omega))
   ⟨Fr.refl _ _,kp⟩
   (λx=>[(5,.int .i64 (x.1:Int)),(6,.int .u8 (x.2.toNat:Int))]) ?assign ?body ?done ?stop
  case assign=>
   intro l' x W K hK;rw [vT] at hK⊢
   gi_wp2
   exact hK
  case body=>
   rintro l' k⟨q,x⟩ X W⟨af,kb⟩⟨hx,rfl⟩ ax _;rw [vT];have au:=(N6.1 hx).1;have ag:=zdS (l.take q)
   have ad:YP (l.take (q+1))=YP (l.take q)+256 ^ q*x.toNat:=by
    rw [List.take_add_one,hx]
    show YP (l.take q++ [x])=_
    rw [zio,N7,Nat.min_eq_left (by omega)]
   have aw:q<4:=by have:=h4.out;omega
   have e0:=kb.cell
   rcases(by omega:q=0∨q=1∨q=2∨q=3)with rfl|rfl|rfl|rfl
   ·
     generalize YP (l.take 0)=s' at*
     replace ad:=hid ad;replace hx:=hid hx;have ak:=x.toNat_lt;have ah:IntKind.u32.wrap (x.toNat:Int)=(x.toNat:Int):=by rw [IntKind.wrap_u32];omega
     gi_wp2_with fail
     refine jQ [O 0,O 1,O 2,O 3,O 4,O 5,O 6,E 7] (some 7) (λw'=>Blk w' w.heap.size #[.int .u32 s'] 35/\True) ⟨kb.drew,trivial⟩ ?_;clear e0;have ae:s'<2 ^ 0:=by rw [N7,h4.out] at ag;exact Nat.lt_of_lt_of_le ag (by decide)
     have aa:=zfb s' x.toNat 0 ae (by omega) (by omega);clear ae
     have ac:bits .or .u32 (s':Int) (x.toNat:Int)=((s'+2 ^ 0*x.toNat:Nat):Int):=by
      have hp:((2 ^ 0:Nat):Int)=1:=by decide
      rw [hp] at aa
      first
      |exact aa
      |(rw [Int.mul_one,ah] at aa;exact aa)
     clear aa;replace ac:=hid ac;have am:IntKind.i64.wrap 0=0:=by decide
     refine Wb ?_
     rw [ac.out];refine zc rfl (λK hK=>?_);have e1:=kb.drew.cell;have f1:=kb.drew.frozen;have l1:=kb.drew.lt;go_wp2;refine hK.out _ _ (λhh=>absurd rfl hh) ?_;clear hK;refine ze ?_;have hv:((s':Nat):Int)+(x.toNat:Int)=((YP (l.take (0+1)):Nat):Int):=by rw [ad.out,(by decide:256 ^ 0=1)];omega
     rw [hv];have hm:Mod (λk=>k=w.heap.size) W (W.setCell ⟨w.heap.size,0,none⟩ (.int .u32 (YP (l.take (0+1)):Nat))).drew:=(Mod.setCell (X:=λk=>k=w.heap.size) W _ _ rfl).trans (Mod.drew (λ_=>False) _) (λ_ _ h=>h) (λ_ _ h=>h.elim);exact⟨⟨af.mod hm (λk _ h=>h),(kb.set _).drew⟩,jJ.of_mod hm (λk _ hX he=>by have:=af.1 k hX;omega)⟩
   ·
     generalize YP (l.take 1)=s' at*
     replace ad:=hid ad;replace hx:=hid hx;have ak:=x.toNat_lt;have ah:IntKind.u32.wrap (x.toNat:Int)=(x.toNat:Int):=by rw [IntKind.wrap_u32];omega
     gi_wp2_with fail
     refine jQ [O 0,O 1,O 2,O 3,O 4,O 5,O 6,E 7] (some 7) (λw'=>Blk w' w.heap.size #[.int .u32 s'] 35/\True) ⟨kb.drew,trivial⟩ ?_;clear e0;have ae:s'<2 ^ 8:=by rw [N7,h4.out] at ag;exact Nat.lt_of_lt_of_le ag (by decide)
     have aa:=zfb s' x.toNat 8 ae (by omega) (by omega);clear ae
     have ac:bits .or .u32 (s':Int) (IntKind.u32.wrap<|(x.toNat:Int)*256)=((s'+2 ^ 8*x.toNat:Nat):Int):=by
      have hp:((2 ^ 8:Nat):Int)=256:=by decide
      rw [hp] at aa
      first
      |exact aa
      |(rw [Int.mul_one,ah] at aa;exact aa)
     clear aa;replace ac:=hid ac;have am:IntKind.i64.wrap 8=8:=by decide
     refine Wb ?_
     rw [ac.out];refine zc rfl (λK hK=>?_);have e1:=kb.drew.cell;have f1:=kb.drew.frozen;have l1:=kb.drew.lt;go_wp2;refine hK.out _ _ (λhh=>absurd rfl hh) ?_;clear hK;refine ze ?_;have hv:((s':Nat):Int)+256*(x.toNat:Int)=((YP (l.take (1+1)):Nat):Int):=by rw [ad.out,(by decide:256 ^ 1=256)];omega
     rw [hv];have hm:Mod (λk=>k=w.heap.size) W (W.setCell ⟨w.heap.size,0,none⟩ (.int .u32 (YP (l.take (1+1)):Nat))).drew:=(Mod.setCell (X:=λk=>k=w.heap.size) W _ _ rfl).trans (Mod.drew (λ_=>False) _) (λ_ _ h=>h) (λ_ _ h=>h.elim);exact⟨⟨af.mod hm (λk _ h=>h),(kb.set _).drew⟩,jJ.of_mod hm (λk _ hX he=>by have:=af.1 k hX;omega)⟩
   ·
     generalize YP (l.take 2)=s' at*
     replace ad:=hid ad;replace hx:=hid hx;have ak:=x.toNat_lt;have ah:IntKind.u32.wrap (x.toNat:Int)=(x.toNat:Int):=by rw [IntKind.wrap_u32];omega
     gi_wp2_with fail
     refine jQ [O 0,O 1,O 2,O 3,O 4,O 5,O 6,E 7] (some 7) (λw'=>Blk w' w.heap.size #[.int .u32 s'] 35/\True) ⟨kb.drew,trivial⟩ ?_;clear e0;have ae:s'<2 ^ 16:=by rw [N7,h4.out] at ag;exact Nat.lt_of_lt_of_le ag (by decide)
     have aa:=zfb s' x.toNat 16 ae (by omega) (by omega);clear ae
     have ac:bits .or .u32 (s':Int) (IntKind.u32.wrap<|(x.toNat:Int)*65536)=((s'+2 ^ 16*x.toNat:Nat):Int):=by
      have hp:((2 ^ 16:Nat):Int)=65536:=by decide
      rw [hp] at aa
      first
      |exact aa
      |(rw [Int.mul_one,ah] at aa;exact aa)
     clear aa;replace ac:=hid ac;have am:IntKind.i64.wrap 16=16:=by decide
     refine Wb ?_
     rw [ac.out];refine zc rfl (λK hK=>?_);have e1:=kb.drew.cell;have f1:=kb.drew.frozen;have l1:=kb.drew.lt;go_wp2;refine hK.out _ _ (λhh=>absurd rfl hh) ?_;clear hK;refine ze ?_;have hv:((s':Nat):Int)+65536*(x.toNat:Int)=((YP (l.take (2+1)):Nat):Int):=by rw [ad.out,(by decide:256 ^ 2=65536)];omega
     rw [hv];have hm:Mod (λk=>k=w.heap.size) W (W.setCell ⟨w.heap.size,0,none⟩ (.int .u32 (YP (l.take (2+1)):Nat))).drew:=(Mod.setCell (X:=λk=>k=w.heap.size) W _ _ rfl).trans (Mod.drew (λ_=>False) _) (λ_ _ h=>h) (λ_ _ h=>h.elim);exact⟨⟨af.mod hm (λk _ h=>h),(kb.set _).drew⟩,jJ.of_mod hm (λk _ hX he=>by have:=af.1 k hX;omega)⟩
   
   generalize YP (l.take 3)=s' at*
   replace ad:=hid ad;replace hx:=hid hx;have ak:=x.toNat_lt;have ah:IntKind.u32.wrap (x.toNat:Int)=(x.toNat:Int):=by rw [IntKind.wrap_u32];omega
   gi_wp2_with fail
   refine jQ [O 0,O 1,O 2,O 3,O 4,O 5,O 6,E 7] (some 7) (λw'=>Blk w' w.heap.size #[.int .u32 s'] 35/\True) ⟨kb.drew,trivial⟩ ?_;clear e0;have ae:s'<2 ^ 24:=by rw [N7,h4.out] at ag;exact Nat.lt_of_lt_of_le ag (by decide)
   have aa:=zfb s' x.toNat 24 ae (by omega) (by omega);clear ae
   have ac:bits .or .u32 (s':Int) (IntKind.u32.wrap<|(x.toNat:Int)*16777216)=((s'+2 ^ 24*x.toNat:Nat):Int):=by
    have hp:((2 ^ 24:Nat):Int)=16777216:=by decide
    rw [hp] at aa
    first
    |exact aa
    |(rw [Int.mul_one,ah] at aa;exact aa)
   clear aa;replace ac:=hid ac;have am:IntKind.i64.wrap 24=24:=by decide
   refine Wb ?_
   rw [ac.out];refine zc rfl (λK hK=>?_);have e1:=kb.drew.cell;have f1:=kb.drew.frozen;have l1:=kb.drew.lt;go_wp2;refine hK.out _ _ (λhh=>absurd rfl hh) ?_;clear hK;refine ze ?_;have hv:((s':Nat):Int)+16777216*(x.toNat:Int)=((YP (l.take (3+1)):Nat):Int):=by rw [ad.out,(by decide:256 ^ 3=16777216)];omega
   rw [hv];have hm:Mod (λk=>k=w.heap.size) W (W.setCell ⟨w.heap.size,0,none⟩ (.int .u32 (YP (l.take (3+1)):Nat))).drew:=(Mod.setCell (X:=λk=>k=w.heap.size) W _ _ rfl).trans (Mod.drew (λ_=>False) _) (λ_ _ h=>h) (λ_ _ h=>h.elim);exact⟨⟨af.mod hm (λk _ h=>h),(kb.set _).drew⟩,jJ.of_mod hm (λk _ hX he=>by have:=af.1 k hX;omega)⟩
  case done=>
   rintro D k X W hD ao an⟨af,kb⟩ al;obtain rfl:k=l.length:=an;rw [List.take_length] at kb;have e0:=kb.cell;have aq:Below w.heap.size w W:=ap.trans (af.below (by omega) (λk h=>by omega));go_wp2;exact jb (D:=D) (v:=.tuple #[.int .u32 (YP l:Nat),.int .i64 0]) al (by simp [results,Tryz.results198,go_sem]) ⟨rfl,zM aq (by omega) _⟩
  case stop=>rintro D c X W hD ao h;exact h.elim
 rw [if_neg h4,if_neg h4]
 have t0:(((bs l).size:Int) !=4)=true:=by rw [aj];simp;omega
 replace aj:=hid aj;refine zm func198 rfl ?_;simp only [ntmps198,R8,Nat.reduceAdd,Nat.reduceSub];go_wp2;exact jU (v:=.tuple #[.int .u32 0,.int .i64 2]) (by simp [results,Tryz.results198,go_sem]) ⟨rfl,N2 _ _⟩
theorem yC(d:List UInt8)(a b:Nat):(bs d).extract a b=bs ((d.drop a).take (b - a)):=by
 apply ByteArray.ext;simp [bs,ByteArray.data_extract]
def zfc(r:List UInt8×Nat):Value:=.tuple #[.string (bs r.1),.int .i64 (r.2:Nat)]
theorem ziq(s:List UInt8)(hl:s.length<=1073741824)(w:World):Calls prog 258 #[.string (bs s)] w λe w'=>e=.returned (zfc (jy s))/\Below w.heap.size w w':=by
 have ad:=zL s
 by_cases h9:s.length<9
 ·have hf:jy s=([],0):=by unfold jy;rw [if_pos h9]
  rw [hf];have t0:decide (((bs s).size:Int)<9)=true:=by rw [ad];simp;omega
  replace ad:=hid ad;replace hf:=hid hf
  go_enter func258,ntmps258
  go_wp2;go_ret2
  exact⟨rfl,N2 _ _⟩
 have t0:decide (((bs s).size:Int)<9)=false:=by rw [ad];simp;omega
 have ao:0<(bs s).size:=by omega
 obtain⟨x,hx⟩:∃x,(bs s)[0]=x:=⟨_,rfl⟩
 have ag:s.head?=some x:=by
  cases s with
  |nil=>simp at h9
  |cons y s=>exact congrArg some hx
 by_cases h52:x=52
 ·subst h52
  have an:=yC s 1 5;rw [show 5 - 1=4 from rfl] at an;have aj:((s.drop 1).take 4).length=4:=by rw [N7,U3];omega
  have aa:jy s=if 4096<yy ((s.drop 1).take 4)then([],0)else if s.length<9+yy ((s.drop 1).take 4)then([],0)else match xU (s.take (9+yy ((s.drop 1).take 4)))with
   |none=>([],0)
   |some b=>(b.drop 5,9+yy ((s.drop 1).take 4)):=by
   unfold jy;rw [if_neg h9,if_neg (by rw [ag];simp)];rfl
  generalize(s.drop 1).take 4=d at*
  have ac:=λW=>ql d (by omega) W
  have ap:yy d<4294967296:=by
   unfold yy;rw [if_pos aj]
   have:=zdS d;rw [aj] at this;exact Nat.lt_of_lt_of_le this (by decide)
  have am:zlt d=.tuple #[.int .u32 (yy d:Nat),.int .i64 0]:=by unfold zlt;rw [if_pos aj]
  rw [am] at ac;clear am
  generalize yy d=n at*
  replace ac:=hid ac;replace ag:=hid ag;have b5:(5:Int)<=((bs s).size:Int):=by omega
  have t1:(((52:UInt8).toNat:Int) !=52)=false:=rfl;have c5:¬(bs s).size<5:=by omega
  by_cases h40:4096<n
  ·rw [if_pos h40] at aa
   rw [aa];have t2:decide ((4096:Int)<(n:Int))=true:=by simp;omega
   replace ad:=hid ad;replace aa:=hid aa
   go_enter func258,ntmps258
   go_wp2_with fail
   refine(ac.out _).mono ?_;rintro e w1⟨rfl,af⟩;go_wp2;go_ret2
   exact⟨rfl,af⟩
  rw [if_neg h40] at aa
  have t2:decide ((4096:Int)<(n:Int))=false:=by simp;omega
  have ax:IntKind.i64.wrap (5+(n:Int))=5+n:=by rw [N8];omega
  have aq:IntKind.i64.wrap (5+(n:Int)+4)=5+n+4:=by rw [N8];omega
  have aw:IntKind.i64.wrap (n:Int)=n:=by rw [N8];omega
  by_cases h9n:s.length<9+n
  ·rw [if_pos h9n] at aa
   rw [aa];have t3:decide (((bs s).size:Int)<5+(n:Int)+4)=true:=by simp;omega
   replace ad:=hid ad;replace aa:=hid aa
   go_enter func258,ntmps258
   go_wp2_with fail
   refine(ac.out _).mono ?_;rintro e w1⟨rfl,af⟩;go_wp2;go_ret2
   exact⟨rfl,af⟩
  rw [if_neg h9n] at aa
  have t3:decide (((bs s).size:Int)<5+(n:Int)+4)=false:=by simp;omega
  have au:(5+(n:Int)+4).toNat=9+n:=by omega
  have ay:=vS s (9+n);have y1:5+(n:Int)+4<=((bs s).size:Int):=by omega
  have y0:(0:Int)<=5+(n:Int)+4:=by omega
  have ah:(s.take (9+n)).length=9+n:=by rw [N7];omega
  generalize s.take (9+n)=u at*
  have ae:=λW=>zaT u (by omega) W
  replace ae:=hid ae
  rcases ho:xU u with _|b
  ·rw [ho] at aa ae
   simp only at aa;rw [aa];unfold zdR at ae;replace ad:=hid ad;replace aa:=hid aa;replace ah:=hid ah;replace ho:=hid ho
   go_enter func258,ntmps258
   go_wp2_with fail
   refine(ac.out _).mono ?_;rintro e w1⟨rfl,af⟩;go_wp2_with fail
   refine(ae.out _).mono ?_;rintro e w2⟨rfl,ai⟩;go_wp2;go_ret2
   exact⟨rfl,zh af ai⟩
  rw [ho] at aa ae
  simp only at aa;rw [aa];unfold zdR at ae
  have ak:b.length=5+n:=by
   unfold xU at ho;rw [ah] at ho
   split at ho
   ·exact absurd ho (by simp)
   split at ho
   ·obtain rfl:=Option.some.inj ho
    rw [N7];omega
   exact absurd ho (by simp)
  have al:=zL b;have z5:(5:Int)<=((bs b).size:Int):=by omega
  have ar:=ju b 5;replace ad:=hid ad;replace aa:=hid aa;replace ah:=hid ah;replace ho:=hid ho;replace ak:=hid ak;replace al:=hid al
  go_enter func258,ntmps258
  go_wp2_with fail
  refine(ac.out _).mono ?_;rintro e w1⟨rfl,af⟩;go_wp2_with fail
  refine(ae.out _).mono ?_;rintro e w2⟨rfl,ai⟩;go_wp2;go_ret2
  refine⟨?_,zh af ai⟩
  have hv:zfc (b.drop 5,9+n)=.tuple #[.string (bs (b.drop 5)),.int .i64 (5+(n:Int)+4)]:=by
   unfold zfc;rw [show((9+n:Nat):Int)=5+(n:Int)+4 by omega]
  rw [hv];rfl
 have hf:jy s=([],0):=by
  unfold jy;rw [if_neg h9,if_pos];rw [ag];simpa using h52
 rw [hf]
 have t1:((x.toNat:Int) !=52)=true:=by
  simp only [bne_iff_ne,ne_eq];intro hc;exact h52 (UInt8.toNat_inj.1 (by simpa using(by omega:x.toNat=52)))
 replace ad:=hid ad;replace hf:=hid hf;replace ag:=hid ag
 go_enter func258,ntmps258
 go_wp2;go_ret2
 exact⟨rfl,N2 _ _⟩
