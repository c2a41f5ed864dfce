/- PARTS OF THE PROOF. -/
import Derived.Lib.ConvBytes
import Derived.Test.YtofppfoioodblaaGreatDoorTT04
import Derived.Test.YtofppfoioodblaaGreatDoorTT13
import Derived.Test.YtofppfoioodblaaGreatDoorTT30
import Derived.Test.YtofppfoioodblaaGreatDoorTT31
set_option maxRecDepth 8000
set_option maxHeartbeats 4000000
open Go.Proofs.Tryz
namespace Go.Proofs.YtofppfoioodblaaGreatDoor
section
open Go Go.RowKit Go.Shelf Go.Extern.Stop Go.Stop Go.Extern
attribute [local go_sem] Oper.semAt_some zv zm
theorem zaf(w:World):(binOp .eql 120 (.slice none 0 0) (.slice none 0 0)).run prog w=.ok (.bool true) w:=by kernel_rfl
theorem zbB(a:Addr)(n c:Nat)(w:World):(binOp .eql 120 (.slice (some a) n c) (.slice none 0 0)).run prog w=.ok (.bool false) w:=by kernel_rfl
theorem zfB(v:Value)(l:List (Nat×Int×List UInt8))(w:World)(hv:Src w v 3 l.length (l.flatMap jb))(hb:l.length<=1073741824):Calls prog 165 #[v] w λe w'=>
 ∃v',e=.returned v'/\Row w' 178 3 v' l.length (l.flatMap jb)/\Below w.heap.size w w':=by
 have hyes:=zaf w;have hno:=λa n c=>zbB a n c w
 have hv0:=hv
 rcases hv.2 with⟨rfl,h0⟩|⟨b,off,cap,rfl,hc,hr⟩
 ·obtain rfl:l=[]:=N9 h0
  go_enter func165,ntmps165
  go_wp2;go_ret
  exact⟨_,rfl,z7 _ _ _,N2 _ _⟩
 ·clear hr hv
  replace hv0:=hid hv0;replace hb:=hid hb
  go_enter func165,ntmps165
  go_wp2_with (at_builtin
               obtain⟨v',w',hrun,hrow,hgr,hown⟩:=zT zkh (zhq w 178 3) (Src.below (Hid.out hv0) ((N2 _ _).alloc (N0 _) _)) (qJ l) (by have:=hb.out;omega) 120
               refine zw rfl _ _ _ rfl rfl rfl hrun ?_)
  go_ret
  exact⟨_,rfl,by simpa using hrow,((N2 _ _).alloc (N0 _) _).grown hgr (by simp) (λk hk=>by simp [Value.ownBlock] at hk;omega)⟩
theorem zht(B last:Nat)(notes:List (Nat×Int×List UInt8))(t:List Nat)(ow:Own)(w:World)(h:jL B last notes t ow w)(hn:notes.length<=1000):Calls prog 112 #[.pointer (some ⟨B,0,none⟩)] w λe w'=>
 ∃v',e=.returned v'/\Row w' 178 3 v' notes.length (notes.flatMap jb)/\Below w.heap.size w w':=by
 obtain⟨lv,hB,hR,o1,o2⟩:=h;have e0:=hB.cell;have hc:=zfB lv notes w hR.src (by omega);replace hc:=hid hc;clear hR hB o2
 go_enter func112,ntmps112
 go_wp2_with fail
 refine hc.out.mono ?_;rintro e w2⟨v',rfl,h1,h2⟩;go_wp2;go_ret
 exact⟨_,rfl,h1,h2⟩
theorem zda(l:List (Nat×Int×List UInt8))(k:Nat)(x:(Nat×Int×List UInt8))(hx:l[k]?=some x)(j:Nat)(hj:j<3):(l.flatMap jb)[k*3+j]?=(jb x)[j]?:=by
 induction l generalizing k with
 |nil=>simp at hx
 |cons y l ih=>
  rw [List.flatMap_cons]
  cases k with
  |zero=>simp at hx;subst hx;rw [U8 (by simp [jb];omega)];simp
  |succ k=>
   rw [U6 (by simp [jb];omega)];have:=ih k (by simpa using hx);rw [← this]
   congr 1
   simp [jb];omega
theorem zi8 {W:World}{l:List (Nat×Int×List UInt8)}{b off cap:Nat}(h:Src W (.slice (some ⟨b,off,none⟩) l.length cap) 3 l.length (l.flatMap jb)){k:Nat}{x:(Nat×Int×List UInt8)}(hx:l[k]?=some x):
 W.cell? ⟨b,off+k*3,none⟩=some (.int .u32 (x.1:Nat))/\W.cell? ⟨b,off+k*3+1,none⟩=some (.int .i64 x.2.1)/\W.cell? ⟨b,off+k*3+2,none⟩=some (.string (bs x.2.2)):=by
 rcases h.2 with⟨h, -⟩|⟨b',off',cap',h, -,hr⟩
 ·cases h
 ·cases h
  have hcell:∀j u,(jb x)[j]?=some u->j<3->W.cell? ⟨b,off+(k*3+j),none⟩=some u:=λj u hu hj=>hr _ u ((zda l k x hx j hj).trans hu)
  exact⟨hcell 0 _ rfl (by omega),hcell 1 _ rfl (by omega),hcell 2 _ rfl (by omega)⟩
theorem zag {W:World}{l:List (Nat×Int×List UInt8)}{b off cap:Nat}(h:Src W (.slice (some ⟨b,off,none⟩) l.length cap) 3 l.length (l.flatMap jb)){k:Nat}(hk:k<=l.length):
 Src W (.slice (some ⟨b,off+k*3,none⟩) (l.length - k) (cap - k)) 3 (l.drop k).length ((l.drop k).flatMap jb):=by
 rw [U3];refine⟨by rw [xC,U3],.inr ⟨b,off+k*3,cap - k,rfl,?_,λj u hu=>?_⟩⟩
 ·rcases h.2 with⟨h, -⟩|⟨b',off',cap',h,hc,hr⟩
  ·cases h
  ·cases h;omega
 ·rcases h.2 with⟨h, -⟩|⟨b',off',cap',h,hc,hr⟩
  ·cases h
  ·cases h
   rw [Nat.add_assoc];refine hr _ u ?_;have hap:l.flatMap jb=(l.take k).flatMap jb++(l.drop k).flatMap jb:=by rw [← U5,List.take_append_drop]
   have hl:((l.take k).flatMap jb).length=k*3:=by rw [xC,N7,Nat.min_eq_left hk]
   rw [hap,U6 (by omega),hl,Nat.add_sub_cancel_left];exact hu
def zhu(x:(Nat×Int×List UInt8)):Value:=.agg #[.int .u32 (x.1:Nat),.int .i64 x.2.1,.string (bs x.2.2)]
def zah(notes:List (Nat×Int×List UInt8))(p:Int):List (Nat×Int×List UInt8)×(Nat×Int×List UInt8)×Int:=if p<0 then(notes,(0,0,[]),2)else match notes[p.toNat]? with
 |none=>(notes,(0,0,[]),2)
 |some x=>(notes.eraseIdx p.toNat,x,0)
theorem zed {notes:List (Nat×Int×List UInt8)}{p:Int}(h:¬(0<=p/\p<notes.length)):zah notes p=(notes,(0,0,[]),2):=by
 unfold zah
 split
 ·rfl
 ·rw [List.getElem?_eq_none (by omega)]
theorem zhv {notes:List (Nat×Int×List UInt8)}{k:Nat}{x:(Nat×Int×List UInt8)}(h:notes[k]?=some x):zah notes (k:Int)=(notes.eraseIdx k,x,0):=by
 unfold zah;rw [if_neg (by omega),Int.toNat_natCast,h]
theorem zfC(B last:Nat)(notes:List (Nat×Int×List UInt8))(t:List Nat)(ow:Own)(p:Int)(w:World)(h:jL B last notes t ow w)(hn:notes.length<=1000):
 Calls prog 99 #[.pointer (some ⟨B,0,none⟩),.int .i64 p] w (Zy B last (zah notes p).1 t ow w (.tuple #[zhu (zah notes p).2.1,.int .i64 (zah notes p).2.2])):=by
 have h0:=h;obtain⟨lv,hB,hR,o1,o2⟩:=h;obtain⟨ha,hc,rfl⟩:=hR.shape;have his:=λW hW=>zi7 B last notes.length hc ha p W hW
 by_cases hp:0<=p/\p<(notes.length:Int)
 ·obtain⟨k,rfl⟩:∃k:Nat,p=(k:Int):=⟨p.toNat,by omega⟩
  have hk:k<notes.length:=by omega
  obtain⟨x,hx⟩:∃x,notes[k]?=some x:=⟨_,N3 hk⟩;rw [zhv hx];simp only [show decide (0<=(k:Int))=true by simp,show decide ((k:Int)<(notes.length:Int))=true by simpa using hk,Bool.and_self] at his
  obtain⟨g,rfl⟩:∃g,ha=some ⟨g,0,none⟩:=by
   rcases hR.2 with⟨h,h1⟩|⟨g,cap,cur,h, -⟩
   ·omega
   ·cases h;exact⟨g,rfl⟩
  obtain⟨c0,c1,c2⟩:=zi8 hR.src hx;simp only [Nat.zero_add] at c0 c1 c2;have lg:=hR.lt (g:=g) rfl;have hBa:=hB.alloc (.cells #[.int .u32 0,.int .i64 0,.string ⟨#[]⟩] 178);have e0:=hBa.cell;have cl:=λ(q:Addr)(hq:q.block<w.heap.size)=>((N2 w.heap.size w).alloc (N0 _) (.cells #[.int .u32 0,.int .i64 0,.string ⟨#[]⟩] 178)).cell hq
  have d0:=(cl ⟨g,k*3,none⟩ lg).trans c0;have d1:=(cl ⟨g,k*3+1,none⟩ lg).trans c1;have d2:=(cl ⟨g,k*3+2,none⟩ lg).trans c2;have y0:(0:Int)<=(k:Int):=by omega
  have y1:(k:Int)<(notes.length:Int):=by omega
  replace his:=hid his;replace h0:=hid h0;replace cl:=hid cl;clear c0 c1 c2
  go_enter func99,ntmps99
  go_wp2_with fail
  refine(his.out _ hBa).mono ?_;rintro e w1⟨rfl,hw1⟩;obtain rfl:=hw1.symm;go_wp2_with fail
  have hz:notes.length<=hc:=by
   rcases hR.2 with⟨h,h1⟩|⟨g,cap,cur,h, -,h2, -⟩
   ·omega
   ·cases h;exact h2
  have y2:(k:Int)<=(hc:Int):=by omega
  have y3:(0:Int)<=(k:Int)+1:=by omega
  have y4:(k:Int)+1<=(notes.length:Int):=by omega
  have y5:IntKind.i64.wrap ((k:Int)+1)=(k:Int)+1:=by rw [N8];omega
  have kBb:=(hBa.alloc (.cells #[.int .u32 (x.1:Nat),.int .i64 x.2.1,.string (bs x.2.2)] 178)).drew;refine zd [O 0,O 1,O 2,O 3,O 4,O 5,O 6,O 7,O 8,O 9,O 10,O 11,O 12,O 13,O 14,E 15,O 16,O 17,E 18] (some 18) (λw'=>Blk w' B #[.int .u32 last,.slice (some ⟨g,0,none⟩) notes.length hc] 122/\True) (by kernel_rfl) (by kernel_rfl) ⟨kBb,trivial⟩ ?_
  (repeat (refine za (v:=?_) rfl rfl (λw' h=>?_) (λK k=>?_);rotate_left;obtain⟨f1,_⟩:=h;have e1:=f1.cell;go_simp;(try with_reducible rfl);go_simp;refine k _ ?_;clear k K))
  obtain⟨W,hW⟩:∃W,W=((w.alloc (.cells #[.int .u32 0,.int .i64 0,.string ⟨#[]⟩] 178)).alloc (.cells #[.int .u32 (x.1:Nat),.int .i64 x.2.1,.string (bs x.2.2)] 178)).drew:=⟨_,rfl⟩;have hbW:Below w.heap.size w W:=by rw [hW];exact pbx
  have hsz:W.heap.size=w.heap.size+1+1:=by rw [hW];simp
  have k0:Blk W w.heap.size #[.int .u32 0,.int .i64 0,.string ⟨#[]⟩] 178:=by rw [hW];exact((Blk.new rfl).alloc _).drew
  have k1:Blk W (w.heap.size+1) #[.int .u32 (x.1:Nat),.int .i64 x.2.1,.string (bs x.2.2)] 178:=by rw [hW];exact(Blk.new (by simp)).drew
  have hRW:=hR.kept (λq hq=>hbW.block q (hR.lt hq))
  have hsrc:Src W (.slice (if hc=k+1 then some ⟨g,0,none⟩else some ⟨g,(k+1)*3,none⟩) (notes.length - (k+1)) (hc - (k+1))) 3 (notes.drop (k+1)).length ((notes.drop (k+1)).flatMap jb):=by
   have h:=zag hRW.src (show k+1<=notes.length by omega);rw [Nat.zero_add] at h
   by_cases hck:hc=k+1
   ·rw [if_pos hck]
    have hn1:notes.length=k+1:=by omega
    have hd:notes.drop (k+1)=[]:=List.drop_eq_nil_of_le (by omega);rw [hd,hn1,Nat.sub_self];exact⟨rfl,.inr ⟨g,0,_,rfl,Nat.zero_le _,λj u hu=>by simp at hu⟩⟩
   ·rw [if_neg hck];exact h
  generalize(if hc=k+1 then some (⟨g,0,none⟩:Addr)else some ⟨g,(k+1)*3,none⟩)=sp at hsrc⊢
  have hclip:=hRW.clip k (by omega) (by simp);have hdl:(notes.drop (k+1)).length=notes.length - (k+1):=by rw [U3]
  obtain⟨v',W8,hrun,hrow,hgr,hown⟩:=Xc zkh hclip hsrc (qJ _) (by omega) 120
  have her:(notes.flatMap jb).take (k*3)++(notes.drop (k+1)).flatMap jb=(notes.eraseIdx k).flatMap jb:=by
   rw [List.eraseIdx_eq_take_drop_succ,U5]
   congr 1
   conv=>lhs;rw [← List.take_append_drop k notes,U5]
   rw [List.take_append_of_le_length (by rw [xC,N7];omega),List.take_of_length_le (by rw [xC,N7];omega)]
  have hel:k+(notes.drop (k+1)).length=(notes.eraseIdx k).length:=by rw [List.length_eraseIdx_of_lt hk];omega
  rw [her,hel] at hrow;have hgB:g≠B:=hR.ne_blk hB (by decide) rfl;have kB8:=(hB.below hbW hB.lt).kept (hgr.block B (by have:=hB.lt;omega) (λe=>hgB (by simpa [Value.ownBlock] using e.symm)))
  have k08:=k0.kept (hgr.block w.heap.size (by omega) (λe=>by have:w.heap.size=g:=by simpa [Value.ownBlock] using e
                                                              omega))
  have k18:=k1.kept (hgr.block (w.heap.size+1) (by omega) (λe=>by have:w.heap.size+1=g:=by simpa [Value.ownBlock] using e
                                                                  omega))
  obtain⟨sa,sc,rfl⟩:=hrow.shape;have hneD:w.heap.size≠B:=by have:=hB.lt;omega
  have hneD1:w.heap.size+1≠B:=by have:=hB.lt;omega
  have lB8:=kB8.lt;replace hrow:=hid hrow;replace hown:=hid hown;replace hrun:=hid hrun;replace hsrc:=hid hsrc;replace her:=hid her;replace hel:=hid hel;replace hdl:=hid hdl;replace hx:=hid hx;rw [← hW];refine zc rfl (λK hK=>?_);refine zw rfl _ _ _ rfl rfl rfl hrun.out ?_;unfold wpList;refine hK.out _ _ (λ_=>⟨kB8,trivial⟩) ?_;clear hK K e0
  (repeat (refine za (v:=?_) rfl rfl (λw' h=>?_) (λK k=>?_);rotate_left;obtain⟨f1,_⟩:=h;have e1:=f1.cell;go_simp;(try with_reducible rfl);go_simp;refine k _ ?_;clear k K))
  have fB8:=kB8.frozen;have cB8:=kB8.cell;refine zc rfl (λK hK=>?_);go_wp2;refine hK.out _ _ (λhh=>absurd rfl hh) ?_;clear hK K fB8 cB8;refine ze ?_;have k09:=k08.other (p:=⟨B,1,none⟩) hneD (.slice sa (notes.eraseIdx k).length sc);have k19:=k18.other (p:=⟨B,1,none⟩) hneD1 (.slice sa (notes.eraseIdx k).length sc);have c0:=k09.cell;have f0:=k09.frozen;have l0:=k09.lt;have c1:=k19.cell;have rr:=(((k09.set (o:=0) (.int .u32 (x.1:Nat))).set (o:=1) (.int .i64 x.2.1)).set (o:=2) (.string (bs x.2.2))).cell
  have ho8:∀q,(Value.slice sa (notes.eraseIdx k).length sc).ownBlock=some q->q=g∨q=W.heap.size:=λq hq=>by
   have:=hown.out;rw [hq] at this
   rcases this with h|h
   ·left;simpa [Value.ownBlock] using h
   ·right;simpa using h
  have hog:ow g=t:=o2 g rfl;replace o2:=hid o2;replace ho8:=hid ho8;go_wp2;refine bodyPost_ret (v:=.tuple #[zhu x,.int .i64 0]) (by simp [results,Tryz.results99,go_sem,rr];rfl) rfl ⟨rfl,ow.ext W.heap.size (λq=>(Value.slice sa (notes.eraseIdx k).length sc).ownBlock=some q) t,?_,?_⟩
  ·have s1:zq t ow w ow W8:=(zq.of_below t ow hbW).trans (zq.grown hgr (λq hq=>by
    have:g=q:=by simpa [Value.ownBlock] using hq
    rw [← this,hog];exact Sub.rfl' t))
   have s2:=s1.trans (zq.setCell W8 ⟨B,1,none⟩ (.slice sa (notes.eraseIdx k).length sc) (by rw [o1];exact Sub.rfl' t));exact(((s2.setNew ⟨w.heap.size,0,none⟩ _ (N0 _)).setNew ⟨w.heap.size,1,none⟩ _ (N0 _)).setNew ⟨w.heap.size,2,none⟩ _ (N0 _)).own (λq hq=>Own.ext_old (by omega))
  ·have hneq:∀q,(Value.slice sa (notes.eraseIdx k).length sc).ownBlock=some q->q≠B/\q≠w.heap.size:=λq hq=>by
    rcases ho8.out q hq with rfl|rfl
    ·exact⟨hgB,by omega⟩
    ·have:=hB.lt;exact⟨by omega,by omega⟩
   refine⟨_,(((kB8.set (o:=1) (.slice sa (notes.eraseIdx k).length sc)).other (p:=⟨w.heap.size,0,none⟩) (Ne.symm hneD) _).other (p:=⟨w.heap.size,1,none⟩) (Ne.symm hneD) _).other (p:=⟨w.heap.size,2,none⟩) (Ne.symm hneD) _,hrow.out.kept (λq hq=>?_),?_,λq hq=>?_⟩
   ·have h1:=hneq q hq
    rw [N4 _ _ _ _ h1.2,N4 _ _ _ _ h1.2,N4 _ _ _ _ h1.2,N4 _ _ _ _ h1.1]
   ·rw [Own.ext_old (by have:=hB.lt;omega),o1]
   ·rcases ho8.out q hq with rfl|rfl
    ·rw [Own.ext_old (by omega),hog]
    ·rw [Own.ext_new (N0 _) hq]
 ·rw [zed hp]
  have hb:(decide (0<=p)&& decide (p<(notes.length:Int)))=false:=by simpa using hp
  rw [hb] at his;have hBa:=hB.alloc (.cells #[.int .u32 0,.int .i64 0,.string ⟨#[]⟩] 178);have kr:Blk (w.alloc (.cells #[.int .u32 0,.int .i64 0,.string ⟨#[]⟩] 178)) w.heap.size #[.int .u32 0,.int .i64 0,.string ⟨#[]⟩] 178:=Blk.new rfl;have rr:=(((kr.set (o:=0) (.int .u32 0)).set (o:=1) (.int .i64 0)).set (o:=2) (.string ⟨#[]⟩)).cell;have e0:=kr.cell;have f0:=kr.frozen;have l0:=kr.lt;replace his:=hid his;replace hb:=hid hb;replace h0:=hid h0;clear hB hR o2
  go_enter func99,ntmps99
  go_wp2_with fail
  refine(his.out _ hBa).mono ?_;rintro e w1⟨rfl,hw1⟩;obtain rfl:=hw1.symm;go_wp2;exact bodyPost_ret (v:=.tuple #[zhu (0,0,[]),.int .i64 2]) (by simp [results,Tryz.results99,go_sem,e0];rfl) rfl ⟨rfl,ow,zq.of_below t ow (pbx),(jL.loc B last notes t).below h0.out (pbx)⟩
end
section
open Go Go.RowKit
variable {P:Program}{ops:Array Oper}{Q:Exit->Act->World->Prop}
abbrev zbC:World->Prop:=λ_=>True
def YU(ops:Array Oper):Option Nat->List (Nat×Bool)->Array Bool->Bool
 |_,[],listed=>(Region.ready .any ops listed).isEmpty
 |brk,(i,true)::r,listed=>(match brk with|none=>true|some f=> !listed.getD f true &&(zky ops f).contains i && i !=f)&&(Region.ready .any ops listed).contains i && Region.free .any ops listed i && YU ops brk r (listed.setIfInBounds i true)
 |brk,(i,false)::r,listed=>decide (Region.ready .any ops listed=[i])&& YU ops (if brk=some i then none else brk) r (listed.setIfInBounds i true)
def y9(P:Program)(ops:Array Oper)(Q:Exit->Act->World->Prop):(World->Prop)->Option Nat->List (Nat×Bool)->Act->World->Prop
 |_,_,[],a,w=>Q .normal a w
 |S,brk,(i,true)::r,a,w=>∃o v,ops[i]?=some o/\YieldsIf P ops S o v a/\y9 P ops Q S brk r (a.put o.dst v) w
 |S,brk,(i,false)::r,a,w=>wpOp P ops (λ_ _ _=>False) i (λa' w'=>(brk=some i->y9 P ops Q zbC none r a' w')/\(brk≠some i->S w'/\y9 P ops Q S brk r a' w')) a w
theorem Z8 {S:World->Prop}{f:Nat} :∀(fuel:Nat)(listed:Array Bool)(a:Act)(w:World),listed.getD f true=true->yu P ops Q zbC none fuel listed a w->yu P ops Q S (some f) fuel listed a w
 |0,_,_,_,_,h=>h
 |fuel+1,listed,a,w,hf,h=>⟨h.1,λi hi=>wpOp_mono (λa' w' h'=>by
  have hf':(listed.setIfInBounds i true).getD f true=true:=by
   by_cases e:i=f
   ·subst e
    by_cases hb:i<listed.size
    ·simp [hb]
    ·simp
   ·rw [getD_set_ne true e];exact hf
  exact⟨λhas=>absurd (has f rfl) (by rw [hf'];simp),Z8 fuel _ a' w' hf' h'.2⟩) (h.2 i hi)⟩
theorem xW(hsel:Region.noSelect ops=true):∀(l:List (Nat×Bool)) (S:World->Prop) (brk:Option Nat) (listed:Array Bool) (a:Act) (w:World),YU ops brk l listed=true->ZO ops listed->(ZV brk listed->S w)->
 y9 P ops Q S brk l a w->yu P ops (jf Q) S brk l.length listed a w
 | [],S,brk,listed,a,w,hB,hc,hS,h=>⟨by simpa [YU] using hB,h⟩
 |(i,true)::l,S,brk,listed,a,w,hB,hc,hS,h=>by
  simp only [YU,Bool.and_eq_true] at hB;obtain⟨⟨⟨hk,hr⟩,hf⟩,hB⟩:=hB;have hr':i∈Region.ready .any ops listed:=by simpa using hr
  have has:ZV brk listed:=λf hf=>by subst hf;simp at hk;simpa using hk.1.1
  obtain⟨o,v,ho,hy,h⟩:=h
  exact Zb ho (Region.noSelect_spec hsel) (λ_ _ _ h=>h) (λf hf=>(by subst hf;simp at hk;exact⟨hk.1.2,hk.2⟩)) _ listed a w hc has (Region.free_spec ho hf) hr' hy (hS has)
   (xW hsel l S brk _ _ w hB (hc.set hr') (λ_=>hS has) h)
 |(i,false)::l,S,brk,listed,a,w,hB,hc,hS,h=>by
  simp only [YU,Bool.and_eq_true,decide_eq_true_eq] at hB;obtain⟨hr,hB⟩:=hB;refine⟨λh0=>(by rw [h0] at hr;cases hr),λj hj=>?_⟩;have hji:j=i:=by rw [hr] at hj;simpa using hj
  subst hji
  have hlt:j<listed.size:=by
   rcases Nat.lt_or_ge j listed.size with h'|h'
   ·exact h'
   ·have:=(mem_ready.1 hj).1;simp [Array.getElem?_eq_none h'] at this
  refine wpOp_mono (λa' w' ⟨h1,h2⟩=>?_) (vT h)
  by_cases hb:brk=some j
  ·subst hb
   rw [if_pos rfl] at hB;exact⟨λhas=>absurd (has j rfl) (by simp [hlt]),Z8 _ _ a' w' (by simp [hlt]) (xW hsel l zbC none _ a' w' hB (hc.set hj) (λ_=>trivial) (h1 rfl))⟩
  ·rw [if_neg hb] at hB
   obtain⟨hS',h3⟩:=h2 hb;exact⟨λ_=>hS',xW hsel l S brk _ a' w' hB (hc.set hj) (λ_=>hS') h3⟩
theorem ZS {id:Nat}{a:Act}{w:World}{l:List Oper}(sch:List (Nat×Bool))(brk:Option Nat)(S:World->Prop)(hm:P.follows .mixedOrders=true)
 (hB:(Region.noSelect l.toArray && decide (sch.length=l.length)&& YU l.toArray brk sch (Array.replicate l.length false))=true) (hS:S w.drew)
 (h:y9 P l.toArray Q S brk sch a w.drew):(Code.region id l.toArray true).wp P Q a w:=by
 simp only [Bool.and_eq_true,decide_eq_true_eq] at hB;obtain⟨⟨h1,h2⟩,h3⟩:=hB;have H:=xW h1 sch S brk _ a w.drew h3 (qx l) (λ_=>hS) h;rw [h2] at H;exact wp_mono (wp_region_any (Q:=jf Q) hm (by simpa using qm _ _ _ _ H)) (λe a w h=>jf.imp e a w h)
variable {S:World->Prop}{brk:Option Nat}
theorem yh {a:Act}{w:World}(h:Q .normal a w):y9 P ops Q S brk [] a w:=by unfold y9;exact h
theorem zX {i:Nat}{r:List (Nat×Bool)}{o:Oper}{a:Act}{w:World}{v:Value}(ho:ops[i]?=some o)(hg:Region.wanted o (yielded ops a.tmps)=true)
 (h1:∀w',S w'->(execOp a.eval o).run P w'=.ok (.value v) w') (h2:∀K:Act->Prop,(∀a',y9 P ops Q S brk r a' w->K a')->K (a.put o.dst v)):y9 P ops Q S brk ((i,true)::r) a w:=by
 unfold y9;exact⟨o,v,ho,.inl ⟨hg,h1⟩,h2 _ (λ_ h=>h)⟩
theorem yF {i:Nat}{o:Oper}{a:Act}{w:World}{R:Act->World->Prop}(ho:ops[i]?=some o)
 (h:∀K:Act->World->Prop,Shut (∀a' w',R a' w'->K a' w')->wpList P ops (Exit.then K (λ_ _ _=>False)) [o] a w):wpOp P ops (λ_ _ _=>False) i R a w:=by
 have H:=h R (λa' w' h1=>h1);unfold wpOp;rw [ho];unfold wpList at H;simp only
 split
 ·rename_i hw
  rw [if_pos hw] at H
  rcases H with H|⟨_,_,_,H⟩
  ·refine .inl ?_
   unfold Oper.wp at*
   generalize(execOp a.eval o).run P w=x at*
   cases x with
   |ok n w'=>
    cases n<;>simp only [Oper.upon] at H⊢<;>
     first
      |exact H
      |exact Calls.mono H (λe w'' he=>by cases e<;>first|exact he|exact he.elim|(obtain⟨_,_,h0⟩:=he;exact h0.elim))
      |exact Rows.mono H (λ_ _ he=>he)
   |halt x w'=>cases x<;>simp only [Oper.upon] at H⊢<;>first|exact H|exact H.elim
  ·exact H.elim
 ·rename_i hw
  rw [if_neg hw] at H;exact H
theorem yB {i:Nat}{r:List (Nat×Bool)}{o:Oper}{a:Act}{w:World}(ho:ops[i]?=some o)(hb:brk≠some i)
 (h:∀K:Act->World->Prop,Shut (∀a' w',S w'->y9 P ops Q S brk r a' w'->K a' w')->wpList P ops (Exit.then K (λ_ _ _=>False)) [o] a w):y9 P ops Q S brk ((i,false)::r) a w:=by
 unfold y9;exact yF ho (λK hK=>h K (λa' w' h1 h2=>hK.out a' w' ⟨λe=>absurd e hb,λ_=>⟨h1,h2⟩⟩))
theorem qK {i:Nat}{r:List (Nat×Bool)}{o:Oper}{a:Act}{w:World}(ho:ops[i]?=some o)
 (h:∀K:Act->World->Prop,Shut (∀a' w',y9 P ops Q zbC none r a' w'->K a' w')->wpList P ops (Exit.then K (λ_ _ _=>False)) [o] a w):y9 P ops Q S (some i) ((i,false)::r) a w:=by
 unfold y9;exact yF ho (λK hK=>h K (λa' w' h1=>hK.out a' w' ⟨λ_=>h1,λe=>absurd rfl e⟩))
end
open Go Go.RowKit Go.Shelf Go.Extern.Stop Go.Stop Go.Extern
attribute [local go_sem] Oper.semAt_some zv zm
def zK(v:jl):List Value:=[.int .u64 (v.1:Nat),.int .u64 (v.2.1:Nat),.string (bs v.2.2)]
theorem JQ(l:List jl):(l.flatMap zK).length=l.length*3:=by
 induction l with
 |nil=>rfl
 |cons m l ih=>simp [List.flatMap_cons,zK,ih];omega
def zE(pv:Value)(l:j8):List Value:=
 [.int .i64 l.inst,.int .u64 (l.ballot:Nat),.string (bs l.value),pv] ++(l.promised.map Value.bool++(l.voted.map Value.bool++ [.int .i64 (l.votes:Nat),.bool l.asked,.bool l.told]))
def JR(B:Nat)(l:j8)(t:List Nat)(ow:Own)(W:World):Prop:=
 l.promised.length=16/\l.voted.length=16/\∃pv,Blk W B (zE pv l).toArray 175/\Row W 317 3 pv l.promises.length (l.promises.flatMap zK)/\ow B=t/\∀g,pv.ownBlock=some g->ow g=t
theorem JR.loc(B:Nat)(l:j8)(t:List Nat):yK t (JR B l t):=by
 rintro ow ow' W W'⟨h1,h2,lv,hB,hR,o1,o2⟩ hs hk;have kB:=hk B hB.lt (by rw [o1];exact Sub.rfl' t);have kR:∀g,lv.ownBlock=some g->ow' g=ow g/\W'.heap[g]?=W.heap[g]?:=λg hg=>hk g (hR.lt hg) (by rw [o2 g hg];exact Sub.rfl' t)
 exact⟨h1,h2,lv,hB.kept kB.2,hR.kept (λg hg=>(kR g hg).2),kB.1.trans o1,λg hg=>(kR g hg).1.trans (o2 g hg)⟩
def jY(s:jW):List Value:=[.int .u64 (s.greatest:Nat),.int .i64 (s.accepted:Nat),.int .i64 (s.delivered:Nat),.bool s.stale,.bool s.lent]
def xD(h:JP):List Value:=[.int .i64 h.1,.int .i64 h.2.1,.int .i64 h.2.2.1.1,.int .u32 (h.2.2.1.2:Nat),.string (bs h.2.2.2)]
structure WK where
 fb:Nat
 lm:Nat
 hm:Nat
 dm:Nat
 bx:Nat
 nb:Nat
 nc:Nat
 sb:Nat
 nl:List Nat
def Vb(i:Int):Value:=.agg #[.int .i64 i]
def zge(k:Nat):Value:=.int .u32 k
def zi9(k:Int):Value:=.int .i64 k
def zdb(bx:Nat):List (Int×Value):=[(1,.func (.func 45) #[] #[.pointer (some ⟨bx,0,none⟩)]),(2,.func (.func 47) #[] #[.pointer (some ⟨bx,0,none⟩)]),(3,.func (.func 49) #[] #[.pointer (some ⟨bx,0,none⟩)]),(4,.func (.func 51) #[] #[.pointer (some ⟨bx,0,none⟩)]),(5,.func (.func 53) #[] #[.pointer (some ⟨bx,0,none⟩)]),(6,.func (.func 55) #[] #[.pointer (some ⟨bx,0,none⟩)]),(7,.func (.func 57) #[] #[.pointer (some ⟨bx,0,none⟩)]),(8,.func (.func 59) #[] #[.pointer (some ⟨bx,0,none⟩)]),(9,.func (.func 61) #[] #[.pointer (some ⟨bx,0,none⟩)]),(10,.func (.func 63) #[] #[.pointer (some ⟨bx,0,none⟩)])]
def vu(l:List Nat):List Value:=l.map λb=>.pointer (some ⟨b,0,none⟩)
def vN(B:Nat)(K:WK)(tv:Value)(lp:Nat->Option Nat)(S:zf)(t:List Nat)(i:Nat):Own->World->Prop:=
 if i<16 then λow W=>∀m,S.nodes[i]?=some m->∃b,K.nl[i]?=some b/\jC b m (t++ [i]) ow W
 else if i=16 then jL K.fb S.last S.notes (t++ [i])
 else if i=17 then λow W=>ow K.lm=t++ [i] /\∃ps:List (Int×Value),(ps.map (·.1)).Nodup/\jc W K.lm Vb ps/\∀j:Nat,zD (j:Int) ps=(lp j).map λb=>.pointer (some ⟨b,0,none⟩)
 else if i=18 then λow W=>ow K.hm=t++ [i] /\jc W K.hm zge (S.hurt.map λq=>(q.1,ZH))
 else if i=19 then λow W=>ow K.dm=t++ [i] /\ow K.bx=t++ [i] /\jc W K.dm zi9 (zdb K.bx)/\Blk W K.bx #[.pointer (some ⟨B,0,none⟩)] 24
 else if i=20 then λow W=>ow K.nb=t++ [i] /\K.nl.length=S.nodes.length/\Row W 43 1 (.slice (some ⟨K.nb,0,none⟩) S.nodes.length K.nc) S.nodes.length (vu K.nl)
 else if i=21 then λow W=>ow K.sb=t++ [i] /\S.seats.length=S.nodes.length/\Blk W K.sb (S.seats.flatMap jY).toArray 90
 else if i=22 then λow W=>(∀g,tv.ownBlock=some g->ow g=t++ [i])/\Row W 80 5 tv S.trace.length (S.trace.flatMap xD)
 else if i<32 then λ_ _=>True
 else λow W=>match lp (i - 32),zD ((i - 32:Nat):Int) S.leads with
  |none,none=>True
  |some b,some l=>JR b l (t++ [i]) ow W
  |_,_=>False
theorem Zi(B:Nat)(K:WK)(tv:Value)(lp:Nat->Option Nat)(S:zf)(t:List Nat)(i:Nat):yK (t++ [i]) (vN B K tv lp S t i):=by
 have kk:∀ {ow ow':Own} {W W':World},(∀k,k<W.heap.size->Sub (t++ [i]) (ow k)->ow' k=ow k/\W'.heap[k]?=W.heap[k]?)->∀k,k<W.heap.size->ow k=t++ [i] ->ow' k=ow k/\W'.heap[k]?=W.heap[k]?:=λhk k h1 h2=>hk k h1 (by rw [h2];exact Sub.rfl' _)
 unfold vN
 split
 ·intro ow ow' W W' h hs hk m hm
  obtain⟨b,hb,hN⟩:=h m hm;exact⟨b,hb,jC.loc b m _ _ _ _ _ hN hs hk⟩
 split
 ·exact jL.loc _ _ _ _
 split
 ·intro ow ow' W W' ⟨o,ps,hd,hM,hl⟩ hs hk
  have:=kk hk _ hM.lt o;exact⟨this.1.trans o,ps,hd,hM.kept this.2,hl⟩
 split
 ·intro ow ow' W W' ⟨o,hM⟩ hs hk
  have:=kk hk _ hM.lt o;exact⟨this.1.trans o,hM.kept this.2⟩
 split
 ·intro ow ow' W W' ⟨o,o2,hM,hB⟩ hs hk
  have k1:=kk hk _ hM.lt o;have k2:=kk hk _ hB.lt o2;exact⟨k1.1.trans o,k2.1.trans o2,hM.kept k1.2,hB.kept k2.2⟩
 split
 ·intro ow ow' W W' ⟨o,hl,hR⟩ hs hk
  have k1:=kk hk _ (hR.lt (g:=K.nb) rfl) o;exact⟨k1.1.trans o,hl,hR.kept (λg hg=>by cases hg;exact k1.2)⟩
 split
 ·intro ow ow' W W' ⟨o,hl,hB⟩ hs hk
  have k1:=kk hk _ hB.lt o;exact⟨k1.1.trans o,hl,hB.kept k1.2⟩
 split
 ·intro ow ow' W W' ⟨o,hR⟩ hs hk
  exact⟨λg hg=>(kk hk g (hR.lt hg) (o g hg)).1.trans (o g hg),hR.kept (λg hg=>(kk hk g (hR.lt hg) (o g hg)).2)⟩
 split
 ·intro ow ow' W W' h hs hk;trivial
 ·cases h1:lp (i - 32)<;>cases h2:zD ((i - 32:Nat):Int) S.leads
  ·intro ow ow' W W' h hs hk;trivial
  ·intro ow ow' W W' h hs hk;exact h
  ·intro ow ow' W W' h hs hk;exact h
  ·exact JR.loc _ _ _
structure zk(B:Nat)(K:WK)(tv:Value)(lp:Nat->Option Nat)(S:zf)(t:List Nat)(ow:Own)(W:World):Prop where
 blk:Blk W B #[.slice (some ⟨K.nb,0,none⟩) S.nodes.length K.nc,.slice (some ⟨K.sb,0,none⟩) S.nodes.length S.nodes.length,.map (some K.lm),.pointer (some ⟨K.fb,0,none⟩),.map (some K.hm),.map (some K.dm),tv] 65
 own:ow B=t
 part:∀i,vN B K tv lp S t i ow W
theorem zk.loc(B:Nat)(K:WK)(tv:Value)(lp:Nat->Option Nat)(S:zf)(t:List Nat):yK t (zk B K tv lp S t):=by
 intro ow ow' W W' h hs hk;have kB:=hk B h.blk.lt (by rw [h.own];exact Sub.rfl' t);exact⟨h.blk.kept kB.2,kB.1.trans h.own,λi=>Zi B K tv lp S t i _ _ _ _ (h.part i) hs (λk a b=>hk k a ((Sub.child t i).trans b))⟩
def zL(B:Nat)(K:WK)(S:zf)(t:List Nat)(ow:Own)(W:World):Prop:=∃tv lp,zk B K tv lp S t ow W
theorem zL.loc(B:Nat)(K:WK)(S:zf)(t:List Nat):yK t (zL B K S t):=by
 rintro ow ow' W W'⟨tv,lp,h⟩ hs hk;exact⟨tv,lp,zk.loc B K tv lp S t _ _ _ _ h hs hk⟩
def xZ(B:Nat)(K:WK)(S:zf)(t:List Nat)(ow:Own)(w:World)(v:Value)(e:Ending)(w':World):Prop:=
 e=.returned v/\∃ow',zq t ow w ow' w'/\zL B K S t ow' w'
variable {B:Nat}{K:WK}{tv tv':Value}{lp lp':Nat->Option Nat}{S S':zf}{t:List Nat}{ow ow':Own}{W W':World}
theorem zk.setPart(h:zk B K tv lp S t ow W)(i:Nat)(hs:zq (t++ [i]) ow W ow' W')(hn:S'.nodes.length=S.nodes.length)(he:∀j,j≠i->vN B K tv lp' S' t j=vN B K tv lp S t j)(hi:vN B K tv lp' S' t i ow' W'):zk B K tv lp' S' t ow' W':=
 ⟨by rw [hn];exact h.blk.kept (hs.block h.blk.lt (qq t i h.own)),(hs.agree B h.blk.lt).trans h.own,λj=>by
  by_cases hj:j=i
  ·rw [hj];exact hi
  ·rw [he j hj];exact(Zi B K tv lp S t j).step (h.part j) hs (zP t (Ne.symm hj))⟩
theorem zk.node(h:zk B K tv lp S t ow W){i:Nat}{m:zp}(hi:i<16)(hm:S.nodes[i]?=some m):∃b,K.nl[i]?=some b/\jC b m (t++ [i]) ow W:=by
 have:=h.part i;unfold vN at this;rw [if_pos hi] at this;exact this m hm
theorem zk.flight(h:zk B K tv lp S t ow W):jL K.fb S.last S.notes (t++ [16]) ow W:=h.part 16
theorem zk.leadsM(h:zk B K tv lp S t ow W):ow K.lm=t++ [17] /\∃ps:List (Int×Value),(ps.map (·.1)).Nodup/\jc W K.lm Vb ps/\∀j:Nat,zD (j:Int) ps=(lp j).map λb=>.pointer (some ⟨b,0,none⟩):=h.part 17
theorem zk.hurtM(h:zk B K tv lp S t ow W):ow K.hm=t++ [18] /\jc W K.hm zge (S.hurt.map λq=>(q.1,ZH)):=h.part 18
theorem zk.does(h:zk B K tv lp S t ow W):ow K.dm=t++ [19] /\ow K.bx=t++ [19] /\jc W K.dm zi9 (zdb K.bx)/\Blk W K.bx #[.pointer (some ⟨B,0,none⟩)] 24:=h.part 19
theorem zk.nrow(h:zk B K tv lp S t ow W):ow K.nb=t++ [20] /\K.nl.length=S.nodes.length/\Row W 43 1 (.slice (some ⟨K.nb,0,none⟩) S.nodes.length K.nc) S.nodes.length (vu K.nl):=h.part 20
theorem zk.srow(h:zk B K tv lp S t ow W):ow K.sb=t++ [21] /\S.seats.length=S.nodes.length/\Blk W K.sb (S.seats.flatMap jY).toArray 90:=h.part 21
theorem zk.trow(h:zk B K tv lp S t ow W):(∀g,tv.ownBlock=some g->ow g=t++ [22])/\Row W 80 5 tv S.trace.length (S.trace.flatMap xD):=h.part 22
theorem zk.lead(h:zk B K tv lp S t ow W)(i:Nat):match lp i,zD (i:Int) S.leads with
 |none,none=>True
 |some b,some l=>JR b l (t++ [i+32]) ow W
 |_,_=>False:=by
 have:=h.part (i+32);unfold vN at this;rw [if_neg (by omega),if_neg (by omega),if_neg (by omega),if_neg (by omega),if_neg (by omega),if_neg (by omega),if_neg (by omega),if_neg (by omega),if_neg (by omega),Nat.add_sub_cancel] at this;exact this
theorem zk.setNode(h:zk B K tv lp S t ow W){i b:Nat}{m:zp}(hi:i<16)(hb:K.nl[i]?=some b)(hs:zq (t++ [i]) ow W ow' W')(hN:jC b m (t++ [i]) ow' W'):zk B K tv lp (setNode S i m) t ow' W':=by
 refine h.setPart i hs (by simp [Go.Proofs.YtofppfoioodblaaGreatDoor.setNode]) (λj hj=>?_) ?_
 ·unfold vN Go.Proofs.YtofppfoioodblaaGreatDoor.setNode
  simp only [List.getElem?_set_ne (Ne.symm hj),List.length_set]
 ·unfold vN Go.Proofs.YtofppfoioodblaaGreatDoor.setNode
  rw [if_pos hi];intro m' hm'
  have hl:i<S.nodes.length:=by
   have:=(N6.1 hm').1
   simpa using this
  simp only [List.getElem?_set_self hl,Option.some.injEq] at hm';subst hm';exact⟨b,hb,hN⟩
theorem zk.setFlight(h:zk B K tv lp S t ow W){last:Nat}{notes:List zfy}(hs:zq (t++ [16]) ow W ow' W')(hN:jL K.fb last notes (t++ [16]) ow' W'):zk B K tv lp {S with last:=last,notes:=notes} t ow' W':=by
 refine h.setPart 16 hs rfl (λj hj=>?_) hN;unfold vN;simp only [if_neg hj]
