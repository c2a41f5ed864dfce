/- PROVED HERE: rostrumlaw18.WorldSame returns true for every input, and its arguments read afterwards as they did; the listed variable holds what the program's text lays (the card ties it). No further condition. -/
import Derived.Test.YtobnhnidffipjaaGreatDoorK02
import Derived.Test.YtobnhnidffipjaaGreatDoorK06
import Derived.Test.YtobnhnidffipjaaGreatDoorK45
import Derived.Test.YtobnhnidffipjaaGreatDoorK50
namespace Go.Proofs.YtobnhnidffipjaaGreatDoor
open Go Go.RowKit Go.Shelf Go.Extern.Stop Go.Stop Go.Extern
attribute [local go_sem] Oper.semAt_some zw zm
def runW(s:StD)(S:zl)(l:List OpD):zl:=l.foldl (λS o=>(doW s S o).1) S
theorem runW_good {v:Int} :∀(l:List OpD)(k L:Nat)(S:zl),zr v k L S->(∀o∈l,zhx o)->L+16*l.length<=3000000000->zr v (k+l.length) (L+16*l.length) (runW (zo v) S l)
 | [],k,L,S,h,_,_=>h
 |o::l,k,L,S,h,ho,hL=>by
  simp only [List.length_cons] at hL⊢;have:=runW_good l (k+1) (L+16) _ (h.does (by omega) o (ho o (by simp)).len (ho o (by simp)).mask) (λx hx=>ho x (by simp [hx])) (by omega)
  rwa [show k+1+l.length=k+(l.length+1)by omega,show L+16+16*l.length=L+16*(l.length+1)by omega] at this
theorem runW_snoc(s:StD)(S:zl)(l:List OpD)(o:OpD):runW s S (l++ [o])=(doW s (runW s S l) o).1:=by
 unfold runW;rw [List.foldl_append];rfl
theorem made_few(n v:Int)(hn:n<1∨5<n)(lv:Value)(w:World):Calls Tryz.prog 9 #[.int .i64 n,.int .i64 v,.slice none 0 0,lv] w λe w'=>e=.returned (.tuple #[.pointer none,.bool false])/\w'=w:=by
 by_cases h:n<1
 ·have t1:decide (n<1)=true:=by simpa using h
  go_enter Tryz.func9,Tryz.ntmps9
  go_wp2;go_ret2
  exact⟨rfl,rfl⟩
 ·have t1:decide (n<1)=false:=by simpa using h
  have t2:decide (5<n)=true:=by simp;omega
  go_enter Tryz.func9,Tryz.ntmps9
  go_wp2;go_ret2
  exact⟨rfl,rfl⟩
set_option maxRecDepth 8000 in
theorem made_bad(n:Nat)(hn:1<=n/\n<=5)(v:Int)(hv:known v=false)(lv:Value)(w:World):Calls Tryz.prog 9 #[.int .i64 (n:Nat),.int .i64 v,.slice none 0 0,lv] w λe w'=>e=.returned (.tuple #[.pointer none,.bool false])/\Below w.heap.size w w':=by
 have t1:decide ((n:Int)<1)=false:=by simp;omega
 have t2:decide (5<(n:Int))=false:=by simp;omega
 have hnew:=λW=>ziS n (by omega) v 262144 hv (by omega) (by omega) W
 replace hnew:=G hnew
 go_enter Tryz.func9,Tryz.ntmps9
 go_wp2_with fail
 refine(hnew.out _).mono ?_;rintro e w1⟨rfl,hb1⟩;go_wp2;go_ret2
 exact⟨rfl,hb1⟩
def MadePost(n:Nat)(v:Int)(l:List OpD)(t:List Nat)(ow:Own)(w:World)(e:Ending)(w':World):Prop:=
 ∃B K ow',e=.returned (.tuple #[.pointer (some ⟨B,0,none⟩),.bool true])/\zq t ow w ow' w'/\zy B K (runW (zo v) (vU n v 262144 (zo v)) ((l.take 200).map yW)) t ow' w'
theorem cutOp_ok {o:OpD}(h:o.mask<4294967296/\o.b<9223372036854775808):zhx (yW o):=⟨by show(o.s.take 50).length<=300;rw [List.length_take];omega,h.1,h.2⟩
set_option maxRecDepth 8000 in
set_option maxHeartbeats 2000000 in
theorem made_any(a:Addr)(n:Nat)(hn:1<=n/\n<=5)(v:Int)(hv:known v=true)(lv:Value)(l:List OpD)(t:List Nat)(ht:t≠ [])(ow:Own)(w:World)(he:jz w a)(hge:ow 2=[])
 (hl:qr w lv 6 vw l) (hok:∀p∈l,p.mask<4294967296/\p.b<9223372036854775808) (hlo:∀b,b<w.heap.size->0<l.length->(∃off n c,lv=.slice (some ⟨b,off,none⟩) n c)->ow b=[]):
 Calls Tryz.prog 9 #[.int .i64 (n:Nat),.int .i64 v,.slice none 0 0,lv] w (MadePost n v l t ow w):=by
 have t1:decide ((n:Int)<1)=false:=by simp;omega
 have t2:decide (5<(n:Int))=false:=by simp;omega
 have hnew:=Vj a n (by omega) v 262144 hv (by omega) (by omega) t ow w he;have hg0:zr v 0 0 (vU n v 262144 (zo v)):=Zs (by omega) (by omega) (by omega);obtain⟨la,lc,rfl,hel⟩:=hl.shape (by omega) (λy=>⟨_,rfl⟩)
 have hels:∀k,k<=200->k<=l.length->zr v k (16*k) (runW (zo v) (vU n v 262144 (zo v)) ((l.take k).map yW)):=λk h1 h2=>by
  have:=runW_good ((l.take k).map yW) 0 0 _ hg0 (λo ho=>by
   obtain⟨x,hx,rfl⟩:=List.mem_map.1 ho
   exact cutOp_ok (hok x (List.mem_of_mem_take hx))) (by rw [List.length_map,List.length_take];omega)
  rw [List.length_map,List.length_take,Nat.min_eq_left h2] at this
  simpa using this
 obtain⟨S0,hS0⟩:∃S0,vU n v 262144 (zo v)=S0:=⟨_,rfl⟩;unfold zec at hnew;unfold MadePost;rw [hS0] at hnew hels;simp only [hS0];have hcut:=λo W=>zb2 o W
 have hel0:=he.lt;replace hnew:=G hnew;replace hel:=G hel;replace hok:=G hok;replace hels:=G hels;replace hlo:=G hlo;replace hcut:=G hcut;replace hg0:=G hg0;replace hS0:=G hS0;clear hl
 go_enter Tryz.func9,Tryz.ntmps9
 go_wp2_with fail
 refine hnew.out.mono ?_;rintro e w1⟨B,K,ow1,rfl,hs1, -,hW1, -⟩;go_wp2
 go_loopw [12] (λp12 wr=>∃(k:Nat)(ow':Own),p12=.int .i64 (k:Nat)/\k<=l.length/\k<=200/\zq t ow w ow' wr/\zy B K (runW (zo v) S0 ((l.take k).map yW)) t ow' wr) (λp12 _=>200 - (intOf p12).toNat)
 case atStart=>exact⟨0,ow1,rfl,Nat.zero_le _,Nat.zero_le _,hs1,hW1⟩
 case round=>
  obtain⟨k,ow2,rfl,hk1,hk2,hst,hW⟩:=hrel;clear hW1 hs1
  by_cases hlt:k<l.length/\k<200
  ·have t3:decide ((k:Int)<(l.length:Int))=true:=by simpa using hlt.1
   have t4:decide ((k:Int)<200)=true:=by simp;omega
   have hwk:IntKind.i64.wrap ((k:Int)+1)=(k:Int)+1:=by rw [IntKind.wrap_i64];omega
   have y0:(0:Int)<=(k:Int):=by omega
   have y1:(k:Int)<(l.length:Int):=by omega
   obtain⟨o,hx⟩:∃x,l[k]?=some x:=⟨_,List.getElem?_eq_getElem hlt.1⟩;obtain⟨b,off,rfl,hc⟩:=hel.out k o hx;have hob:=hok.out o (List.mem_of_getElem? hx);have c0w:=hc 0 (by omega);have hblt:b<w.heap.size:=jw (p:=⟨b,off+(k*6+0),none⟩) c0w;have hbk:wr.heap[b]?=w.heap[b]?:=hst.block hblt (by rw [hlo.out b hblt (by omega) ⟨off,_,_,rfl⟩];exact zj ht)
   have hcr:∀j,j<6->wr.cell? ⟨b,off+k*6+j,none⟩=(vw o)[j]?:=λj hj=>by
    rw [Nat.add_assoc];exact(World.cell?_of_block (w:=w) (w':=wr) (a:=⟨b,off+(k*6+j),none⟩) hbk).trans (hc j hj)
   have c0:=hcr 0 (by omega);have c1:=hcr 1 (by omega);have c2:=hcr 2 (by omega);have c3:=hcr 3 (by omega);have c4:=hcr 4 (by omega);have c5:=hcr 5 (by omega);have hok2:=cutOp_ok hob;have hcu:=hcut.out o;have hgk:=hels.out k hk2 hk1;have hsn:=runW_snoc (zo v) S0 ((l.take k).map yW) (yW o);rw [show(l.take k).map yW++ [yW o]=(l.take (k+1)).map yW by rw [List.take_add_one,hx];simp] at hsn;have heW:=he.step ht hst hge;have hgeW:ow2 2=[]:=by rw [hst.agree _ hel0];exact hge
   obtain⟨knd,nod,A,bit,msk,str⟩:=o;simp only [vw,Nat.add_zero] at c0 c1 c2 c3 c4 c5;simp only [List.getElem?_cons_zero,List.getElem?_cons_succ] at c0 c1 c2 c3 c4 c5;unfold opV yW at hcu;simp only at hcu;replace hx:=G hx;replace hc:=G hc;replace hcr:=G hcr;replace hcu:=G hcu;replace hgk:=G hgk;replace hsn:=G hsn;replace hok2:=G hok2;replace hob:=G hob;replace hbk:=G hbk;clear c0w;go_wp2_with fail
   refine(hcu.out _).mono ?_;rintro e w3⟨rfl,hb3⟩;have hst3:zq t ow2 wr (ow2.cut wr) w3:=zq.wrap hb3 (zq.refl _ _ _);have hdo:=zdj hgk.out (by omega) (by omega) hv ht _ hok2.out ((zy.loc B K _ t).cut hW hb3) (heW.step ht hst3 hgeW) (by rw [hst3.agree _ (by have:=hst.size;omega)];exact hgeW);unfold opV yW at hdo;simp only at hdo;replace hdo:=G hdo;clear c0 c1 c2 c3 c4 c5;go_wp2_with fail
   refine hdo.out.mono ?_;rintro e w4⟨rfl,ow4,hs4,hW4⟩;go_wp2
   go_roundw
   case rel=>exact⟨k+1,ow4,by simp,by omega,by omega,(hst.trans hst3).trans hs4,by rw [hsn.out];exact hW4⟩
   case measure=>simp [intOf];omega
  ·have hend:(l.take k).map yW=(l.take 200).map yW:=by
    rcases(by omega:k=200∨l.length<=k)with h|h
    ·rw [h]
    ·rw [List.take_of_length_le h,List.take_of_length_le (by omega)]
   rw [hend] at hW;have hcs:(k<l.length/\¬k<200)∨¬k<l.length:=by omega
   replace hW:=G hW;replace hend:=G hend
   rcases hcs with⟨q1,q2⟩|q1
   ·have t3:decide ((k:Int)<(l.length:Int))=true:=by simpa using q1
    have t4:decide ((k:Int)<200)=false:=by simp;omega
    go_wp2;go_ret2
    exact⟨B,K,ow2,rfl,hst,hW.out⟩
   ·have t3:decide ((k:Int)<(l.length:Int))=false:=by simpa using q1
    go_wp2;go_ret2
    exact⟨B,K,ow2,rfl,hst,hW.out⟩
theorem hap_same(h:zb4)(w:World):(binOp .neq 36 (.agg (jp h).toArray) (.agg (jp h).toArray)).run Tryz.prog w=.ok (.bool false) w:=by
 obtain⟨k,n,⟨i,c⟩,d⟩:=h;unfold jp;rw [run_neq_struct];simp [go_sem]
theorem flatHap_at:∀(l:List zb4)(k:Nat)(x:zb4),l[k]?=some x->∀j,j<5->(l.flatMap jp)[k*5+j]?=(jp x)[j]?
 | [],k,x,h,_,_=>by simp at h
 |y::l,0,x,h,j,hj=>by
  simp only [List.getElem?_cons_zero,Option.some.injEq] at h;subst h;rw [List.flatMap_cons,List.getElem?_append_left (by simp only [jp,List.length_cons,List.length_nil];omega),Nat.zero_mul,Nat.zero_add]
 |y::l,k+1,x,h,j,hj=>by
  simp only [List.getElem?_cons_succ] at h;rw [List.flatMap_cons,List.getElem?_append_right (by simp only [jp,List.length_cons,List.length_nil];omega)];have:=flatHap_at l k x h j hj;rw [← this]
  congr 1
  simp only [jp,List.length_cons,List.length_nil];omega
theorem src_hap {W:World}{l:List zb4}{b off cap:Nat}(h:Src W (.slice (some ⟨b,off,none⟩) l.length cap) 5 l.length (l.flatMap jp)){k:Nat}{x:zb4}(hx:l[k]?=some x){j:Nat}(hj:j<5):W.cell? ⟨b,off+k*5+j,none⟩=(jp x)[j]?:=by
 rcases h.2 with⟨h, -⟩|⟨b',off',cap',h, -,hr⟩
 ·cases h
 ·cases h
  have h1:=flatHap_at l k x hx j hj
  cases hu:(jp x)[j]? with
  |none=>simp [jp] at hu;omega
  |some u=>rw [Nat.add_assoc];exact hr _ u (h1.trans hu)
theorem ops_move {w w':World}{lv:Value}{l:List OpD}(h:qr w lv 6 vw l)(hb:Below w.heap.size w w'):qr w' lv 6 vw l:=by
 rcases h with h|⟨a,cap,h1,h2⟩
 ·exact .inl h
 ·refine .inr ⟨a,cap,h1,λi p hp j hj=>?_⟩
  have h3:=h2 i p hp j hj;obtain⟨u,hu⟩:∃u,(vw p)[j]?=some u:=⟨_,List.getElem?_eq_getElem (by simp only [vw,List.length_cons,List.length_nil];omega)⟩;rw [hu] at h3⊢;exact(hb.cell (jw h3)).trans h3
theorem ops_lt {w:World}{lv:Value}{l:List OpD}(h:qr w lv 6 vw l)(h0:0<l.length){b off n c:Nat}(e:lv=.slice (some ⟨b,off,none⟩) n c):b<w.heap.size:=by
 rcases h with⟨rfl,rfl⟩|⟨a,cap,h1,h2⟩
 ·simp at h0
 ·rw [e] at h1
  cases h1
  have h3:=h2 0 _ (List.getElem?_eq_getElem h0) 0 (by omega);have h4:=jw (w:=w) (u:=.int .i64 (l[0]'h0).kind) h3
  simpa [Addr.add] using h4
set_option maxRecDepth 8000 in
set_option maxHeartbeats 4000000 in
theorem worldSame_true(a:Addr)(n v:Int)(lv:Value)(l:List OpD)(mv:Value)(m:List OpD)(w:World)(he:jz w a)(hl:qr w lv 6 vw l)(hlk:∀p∈l,p.mask<4294967296/\p.b<9223372036854775808)(hm:qr w mv 6 vw m)(hmk:∀p∈m,p.mask<4294967296/\p.b<9223372036854775808):
 Calls Tryz.prog 3 #[.int .i64 n,.int .i64 v,lv,mv] w λe w'=>e=.returned (.bool true)/\Below w.heap.size w w':=by
 have hsh:=Jp a w he;have hel:=he.lt;replace hsh:=G hsh
 by_cases hn:n<1∨5<n
 ·have hmd:=λlv W=>made_few n v hn lv W
  replace hmd:=G hmd;clear hl hm hlk hmk
  go_enter Tryz.func3,Tryz.ntmps3
  go_wp2_with fail
  refine hsh.out.mono ?_;rintro e w1⟨rfl,hb1⟩;go_wp2_with fail
  refine(hmd.out _ _).mono ?_;rintro e w2⟨rfl,hw2⟩;obtain rfl:=hw2.symm;go_wp2_with fail
  refine(hmd.out _ _).mono ?_;rintro e w2⟨rfl,hw2⟩;obtain rfl:=hw2.symm;go_wp2_with fail
  refine(hmd.out _ _).mono ?_;rintro e w2⟨rfl,hw2⟩;obtain rfl:=hw2.symm;go_wp2;go_ret
  exact⟨rfl,hb1⟩
 ·obtain⟨N,rfl⟩:∃N:Nat,n=N:=⟨n.toNat,by omega⟩
  have hN:1<=N/\N<=5:=by omega
  cases hv:known v with
  |false=>
   have hmd:=λlv W=>made_bad N hN v hv lv W
   replace hmd:=G hmd;replace hv:=G hv;clear hl hm hlk hmk
   go_enter Tryz.func3,Tryz.ntmps3
   go_wp2_with fail
   refine hsh.out.mono ?_;rintro e w1⟨rfl,hb1⟩;go_wp2_with fail
   refine(hmd.out _ _).mono ?_;rintro e w2⟨rfl,hb2⟩;go_wp2_with fail
   refine(hmd.out _ _).mono ?_;rintro e w3⟨rfl,hb3⟩;go_wp2_with fail
   refine(hmd.out _ _).mono ?_;rintro e w4⟨rfl,hb4⟩;go_wp2;go_ret
   exact⟨rfl,ze hb1 (ze hb2 (ze hb3 hb4))⟩
  |true=>
   have hmd:=λlv l t (ht:t≠ []) ow W h1 h2 h3 h4 h5=>made_any a N hN v hv lv l t ht ow W h1 h2 h3 h4 h5
   have hg0:zr v 0 0 (vU N v 262144 (zo v)):=Zs (by omega) (by omega) (by omega);obtain⟨S,hS⟩:∃S,runW (zo v) (vU N v 262144 (zo v)) ((l.take 200).map yW)=S:=⟨_,rfl⟩
   have hGS:zr v 200 3200 S:=by
    have hlen:((l.take 200).map yW).length<=200:=by rw [List.length_map,List.length_take];omega
    have:=runW_good ((l.take 200).map yW) 0 0 _ hg0 (λo ho=>by
     obtain⟨x,hx,rfl⟩:=List.mem_map.1 ho
     exact cutOp_ok (hlk x (List.mem_of_mem_take hx))) (by omega)
    rw [hS] at this;exact this.mono (by omega) (by omega)
   have hts:=hGS.traceLe;replace hmd:=G hmd;replace hlk:=G hlk;replace hmk:=G hmk;replace hl:=G hl;replace hm:=G hm;replace hg0:=G hg0;replace hGS:=G hGS;replace hS:=G hS;replace hv:=G hv
   go_enter Tryz.func3,Tryz.ntmps3
   go_wp2_with fail
   refine hsh.out.mono ?_;rintro e w1⟨rfl,hb1⟩;have he1:=he.below hb1 hel;have q1:=hmd.out lv l [1] (by simp) (λ_=>[]) w1 he1 rfl (ops_move hl.out hb1) hlk.out (λ_ _ _ _=>rfl);replace q1:=G q1;go_wp2_with fail
   refine q1.out.mono ?_;rintro e w2⟨Ba,Ka,ow2,rfl,hs2,hA2⟩;rw [hS.out] at hA2;have hb2:Below w1.heap.size w1 w2:=hs2.below (Nat.le_refl _) (λ_ _=>zj (by simp));have hb12:=ze hb1 hb2;have hge2:ow2 2=[]:=hs2.agree _ he1.lt;have he2:=he1.step (by simp) hs2 rfl
   have q2:=hmd.out mv m [2] (by simp) ow2 w2 he2 hge2 (ops_move hm.out hb12) hmk.out (λb _ h0 hx=>by
    obtain⟨off,n',c,hx⟩:=hx
    exact hs2.agree b (Nat.lt_of_lt_of_le (ops_lt hm.out h0 hx) hb1.size))
   replace q2:=G q2;replace hA2:=G hA2;go_wp2_with fail
   refine q2.out.mono ?_;rintro e w3⟨Bm,Km,ow3,rfl,hs3, -⟩;have hA3:=(zy.loc Ba Ka S [1]).step hA2.out hs3 (show zen ([] ++ [2]) ([] ++ [1])from zC [] (by decide));have hk3:∀k,k<w1.heap.size->ow3 k=[]:=λk hk=>(hs3.agree k (Nat.lt_of_lt_of_le hk hs2.size)).trans (hs2.agree k hk)
   have hb3:Below w1.heap.size w1 w3:=hb2.trans (hs3.below hb2.size (λk hk=>by rw [hs2.agree k hk];exact zj (by simp)));have hb13:=ze hb1 hb3;have he3:=he2.step (by simp) hs3 hge2;have hge3:ow3 2=[]:=hk3 _ he1.lt
   have q3:=hmd.out lv l [3] (by simp) ow3 w3 he3 hge3 (ops_move hl.out hb13) hlk.out (λb _ h0 hx=>by
    obtain⟨off,n',c,hx⟩:=hx
    exact hk3 b (Nat.lt_of_lt_of_le (ops_lt hl.out h0 hx) hb1.size))
   replace q3:=G q3;replace hA3:=G hA3;go_wp2_with fail
   refine q3.out.mono ?_;rintro e w4⟨Bb,Kb,ow4,rfl,hs4,hB4⟩;rw [hS.out] at hB4;have hA4:=(zy.loc Ba Ka S [1]).step hA3.out hs4 (show zen ([] ++ [3]) ([] ++ [1])from zC [] (by decide));have hb4:Below w1.heap.size w1 w4:=hb3.trans (hs4.below hb3.size (λk hk=>by rw [hk3 k hk];exact zj (by simp)));have hb14:=ze hb1 hb4;obtain⟨tva,lpa,hIa⟩:=hA4;obtain⟨tvb,lpb,hIb⟩:=hB4;have q4:=xg w4 hIa (by omega);replace q4:=G q4;replace hIa:=G hIa;replace hIb:=G hIb;clear q1 q2 q3;go_wp2_with fail
   refine q4.out.mono ?_;rintro e w5⟨xv,rfl,hrx,hb5, -⟩;have q5:=xg w5 ((zh.loc _ _ _ _ _ _).below hIb.out hb5) (by omega);replace q5:=G q5;replace hrx:=G hrx;clear q4;go_wp2_with fail
   refine q5.out.mono ?_;rintro e w6⟨yv,rfl,hry,hb6, -⟩;have hb46:=ze hb5 hb6;have q6:=yk w6 ((zh.loc _ _ _ _ _ _).below hIa.out hb46) hGS.out.notesN;obtain⟨xa,xc,rfl⟩:=hrx.out.wideV.shape;obtain⟨ya,yc,rfl⟩:=hry.wideV.shape;replace q6:=G q6;replace hry:=G hry;have u1:((S.trace.length:Int) !=(S.trace.length:Int))=false:=by simp
   have u2:((S.notes.length:Int) !=(S.notes.length:Int))=false:=by simp
   clear q5;go_wp2_with fail
   refine q6.out.mono ?_;rintro e w7⟨rfl,hb7⟩;have hb47:=ze hb46 hb7;have q7:=yk w7 ((zh.loc _ _ _ _ _ _).below hIb.out hb47) hGS.out.notesN;replace q7:=G q7;clear q6;go_wp2_with fail
   refine q7.out.mono ?_;rintro e w8⟨rfl,hb8⟩;have hb68:=ze hb7 hb8;have hb58:=ze hb6 hb68;have hb48:=ze hb5 hb58;have hsx:=hrx.out.src.below hb58;have hsy:=hry.out.src.below hb68;replace hsx:=G hsx;replace hsy:=G hsy;clear q7;go_wp2
   go_loopw [16] (λp16 wr=>∃k:Nat,p16=.int .i64 (k:Nat)/\k<=S.trace.length/\Below w8.heap.size w8 wr) (λp16 _=>S.trace.length - (intOf p16).toNat)
   case atStart=>exact⟨0,rfl,Nat.zero_le _,Below.refl _ _⟩
   case round=>
    obtain⟨k,rfl,hk,hbw⟩:=hrel
    by_cases hlt:k<S.trace.length
    ·have t3:decide ((k:Int)<(S.trace.length:Int))=true:=by simpa using hlt
     have y0:(0:Int)<=(k:Int):=by omega
     have y1:(k:Int)<(S.trace.length:Int):=by omega
     have hwk:IntKind.i64.wrap ((k:Int)+1)=(k:Int)+1:=by rw [IntKind.wrap_i64];omega
     obtain⟨x,hx⟩:∃x,S.trace[k]?=some x:=⟨_,List.getElem?_eq_getElem hlt⟩;have hx1:=hsx.out.below hbw;have hy1:=hsy.out.below hbw
     obtain⟨xb,xo,rfl⟩:∃b off,xa=some ⟨b,off,none⟩:=by
      rcases hx1.2 with⟨-,h0⟩|⟨b,off,cap,h0, -⟩
      ·omega
      ·cases h0;exact⟨_,_,rfl⟩
     obtain⟨yb,yo,rfl⟩:∃b off,ya=some ⟨b,off,none⟩:=by
      rcases hy1.2 with⟨-,h0⟩|⟨b,off,cap,h0, -⟩
      ·omega
      ·cases h0;exact⟨_,_,rfl⟩
     have a0:=src_hap hx1 hx (j:=0) (by omega);have a1:=src_hap hx1 hx (j:=1) (by omega);have a2:=src_hap hx1 hx (j:=2) (by omega);have a3:=src_hap hx1 hx (j:=3) (by omega);have a4:=src_hap hx1 hx (j:=4) (by omega);have b0:=src_hap hy1 hx (j:=0) (by omega);have b1:=src_hap hy1 hx (j:=1) (by omega);have b2:=src_hap hy1 hx (j:=2) (by omega);have b3:=src_hap hy1 hx (j:=3) (by omega);have b4:=src_hap hy1 hx (j:=4) (by omega);have hsm:=hap_same x;obtain⟨xk,xn,⟨xi,xcn⟩,xd⟩:=x;simp only [jp,Nat.add_zero] at a0 a1 a2 a3 a4 b0 b1 b2 b3 b4 hsm;simp only [List.getElem?_cons_zero,List.getElem?_cons_succ] at a0 a1 a2 a3 a4 b0 b1 b2 b3 b4;replace hx:=G hx;replace hx1:=G hx1;replace hy1:=G hy1;go_wp2
     go_quiet (fail)
     go_wp2
     go_roundw
     case rel=>exact⟨k+1,by simp,by omega,zdq hbw _⟩
     case measure=>simp [intOf];omega
    ·have t3:decide ((k:Int)<(S.trace.length:Int))=false:=by simpa using hlt
     go_wp2;go_ret
     exact⟨rfl,ze hb14 (ze hb48 hbw)⟩
end Go.Proofs.YtobnhnidffipjaaGreatDoor
namespace Go.Proofs.YtobnhnidffipjaaGreatDoor.worldSame
open Go Go.RowKit Go.ChangeShapes Go.WideShapes Go.ChangeAt
set_option maxRecDepth 100000 in
theorem contract(H:Type)(enc:TypeId×Value->H)(W:World)(base:Nat)(args:Array Value)(ds gs:List (DataW H))(before:List MemPlace)
 (hval:∀(j:Nat) t v,Tryz.f3.params[j]?=some t->args[j]?=some v->Value.okWide Tryz.prog W .any base t v)
 (hW:DataW.Whole enc Tryz.prog Tryz.f3.params.toList Rows.worldSameSpec.vars false W args.toList ds gs before) (hL:laidMetH Tryz.prog Rows.worldSameRow.laid W):
 Calls Tryz.prog 3 args W λe W'=>∃v,e=.returned v/\Rows.worldSameSpec.post enc Tryz.prog Tryz.f3 false true false false W args v W':=by
 obtain⟨a,he⟩:=Z1 hL;have hW':=hW;obtain⟨p,q,hA0,hV,rfl,_,_⟩:=hW;have hA:DataW.TrodAll enc Tryz.prog W 0 (λ_=>true) true Tryz.f3.params.toList args.toList ds p:=hA0;rw [Tryz.params3] at hA hval;obtain⟨v0,vs0,d0,ds0,p0,q0,hargs,rfl,rfl,h0,r0⟩:=trodAll_cons hA;obtain⟨v1,vs1,d1,ds1,p1,q1,rfl,rfl,rfl,h1,r1⟩:=trodAll_cons r0;obtain⟨v2,vs2,d2,ds2,p2,q2,rfl,rfl,rfl,h2,r2⟩:=trodAll_cons r1;obtain⟨v3,vs3,d3,ds3,p3,q3,rfl,rfl,rfl,h3,r3⟩:=trodAll_cons r2;obtain⟨rfl,rfl,rfl⟩:=trodAll_nil r3;obtain rfl:args=#[v0,v1,v2,v3]:=by cases args;simp_all
 obtain⟨rfl,rfl⟩:=trodVars_none hV;obtain⟨x,rfl,_,_,_⟩:=open_int Tryz.underlying3 (hval 0 3 v0 rfl rfl) h0;obtain⟨y,rfl,_,_,_⟩:=open_int Tryz.underlying3 (hval 1 3 v1 rfl rfl) h1;obtain⟨l,hm2,hok2,hl2⟩:=zbY (hval 2 22 v2 rfl rfl) h2;obtain⟨m,hm3,hok3,hl3⟩:=zbY (hval 3 22 v3 rfl rfl) h3;have walk:=worldSame_true a x y v2 l v3 m W he hm2 hok2 hm3 hok3;clear hA0;refine walk.mono λe W' ⟨he,hg⟩=>?_
 subst he;exact⟨_,rfl,Qz zca (by kernel_rfl) (by kernel_rfl) rfl Tryz.underlying4 rfl hW' hg⟩
theorem reads(os:Os){H:Type}(enc:TypeId×Value->H):∃places,DataW.whole enc Tryz.prog ((xI os).forCall (λ_ _=>0) ⟨#[],#[.int .i64 0,.int .i64 0,.slice none 0 0,.slice none 0 0],[]⟩).memory Tryz.f3.params.toList Rows.worldSameSpec.vars false (#[.int .i64 0,.int .i64 0,.slice none 0 0,.slice none 0 0]:Array Value).toList 8=some ([.lit (.int .i64 0),.lit (.int .i64 0),.nil,.nil],[],places):=
 ⟨[],by kernel_rfl⟩
set_option maxRecDepth 100000 in
theorem lifted(os:Os)(started:os.Started)(H:Type)(enc:TypeId×Value->H)(F:Stop.Interp):
 ReturnsInHanded {} Tryz.checked os 3 .any ((OpenSpec.ofChange Rows.worldSameSpec).preRow enc Tryz.prog Tryz.f3 Rows.worldSameRow.domain false Rows.worldSameRow.laid) (((OpenSpec.ofChange Rows.worldSameSpec).at F).post enc Tryz.prog Tryz.f3 false true false false):=by
 obtain⟨places,hx⟩:=reads os enc
 refine returnsInHanded_of_row (C:=Tryz.checked) (s:=OpenSpec.ofChange Rows.worldSameSpec) own started (by kernel_rfl) Tryz.func3
  (witness_row_atRef (enc:=enc) (C:=Tryz.checked) false (xI os) #[.int .i64 0,.int .i64 0,.slice none 0 0,.slice none 0 0] rfl (by kernel_rfl) (by kernel_rfl) (by kernel_rfl)
   (OpenSpec.preRow_of_cond 8 hx (by kernel_rfl) (λk hk=>by cases hk) (by kernel_rfl) (QC os _))) ?_
 intro W base args ds gs before hval hW _ _ _ hL _ _;exact contract H enc W base args ds gs before hval hW hL
theorem closed0:(Rows.worldSameRow.inPlace==Tryz.pinned.checked.prog.inPlace 3)=true:=by kernel_rfl
theorem closed1:(Rows.worldSameRow.unfollowed==Tryz.pinned.checked.prog.unfollowed 3)=true:=by kernel_rfl
theorem closed2:(Rows.worldSameRow.recurses==Tryz.pinned.checked.prog.recurses 3)=true:=by kernel_rfl
theorem closed3:(Rows.worldSameRow.named==Tryz.pinned.checked.prog.varsNamed 3)=true:=by kernel_rfl
theorem closed:joinedFacts Tryz.pinned.checked.prog 3 Tryz.f3 (OpenSpec.ofChange Rows.worldSameSpec).bare Rows.worldSameRow=true:=by
 unfold joinedFacts;rw [closed0,closed1,closed2,closed3]
 kernel_rfl
theorem said:Rows.WorldSameSaid:=
 OpenClaim.holds_of_cond 3 Tryz.f3 rfl rfl rfl rfl rfl rfl rfl ⟨rfl,rfl,rfl,rfl,rfl⟩ rfl rfl rfl rfl rfl (by kernel_rfl) Tryz.func3 closed
  (of_decide_eq_true (by kernel_rfl)) (by unfold Func.isWrapper;first|(rw [if_pos (by decide+kernel)];kernel_rfl)|(rw [if_neg (by decide+kernel)];exact⟨rfl,rfl⟩))
  (λos started H enc _ F=>by rw [OpenClaim.pre_eq_preRow];exact lifted os started H enc F)
theorem plain(f:FuncId)(fn:Func)(hf:Tryz.pinned.checked.prog.funcNamed "rostrum/rostrumlaw18.WorldSame" =some f)(hfn:Tryz.pinned.checked.prog.funcs[f]?=some fn):
 true=Tryz.pinned.checked.prog.looks [] /\∀(j:Nat) t,fn.params[j]?=some t->Tryz.pinned.checked.prog.wantsStandIn t=false:=by
 obtain rfl:f=3:=Option.some.inj ((show Tryz.prog.funcNamed "rostrum/rostrumlaw18.WorldSame" =some 3 by kernel_rfl).symm.trans hf)|>.symm
 obtain rfl:fn=Tryz.f3:=(Option.some.inj (Tryz.func3.symm.trans hfn)).symm;refine⟨by kernel_rfl,λj t ht=>?_⟩;rw [Tryz.params3] at ht
 have:t=3∨t=22:=by
  match j,ht with
  |0,h=>exact .inl (by simpa using h.symm)
  |1,h=>exact .inl (by simpa using h.symm)
  |2,h=>exact .inr (by simpa using h.symm)
  |3,h=>exact .inr (by simpa using h.symm)
  |n+4,h=>simp at h
 rcases this with rfl|rfl
 ·exact(show Tryz.prog.wantsStandIn 3=false by kernel_rfl)
 ·exact(show Tryz.prog.wantsStandIn 22=false by kernel_rfl)
theorem card:Rows.WorldSameCardSaid:=
 Claim7.holds_tied_plain_at .later [] _ _ _ _ said (λ_ h=>by cases h) (by kernel_rfl) (λ_ h=>by cases h) worldSame_row_tie rfl ⟨rfl,rfl⟩ (by kernel_rfl) rfl plain (by kernel_rfl)
end Go.Proofs.YtobnhnidffipjaaGreatDoor.worldSame
